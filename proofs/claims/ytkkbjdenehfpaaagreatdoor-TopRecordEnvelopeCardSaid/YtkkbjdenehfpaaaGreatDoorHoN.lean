import Derived.Test.YtkkbjdenehfpaaaGreatDoorHaN
set_option linter.all false
namespace Go.Ab
open Go.RowKit
variable{E:Env}
section
variable{U:bc}{c c2 c3:Ctx}{a:Act}{w w':World}{fs:bc}{t:St}
structure Po(E:Env)(c c3:Ctx)(w w':World)(fs:bc)(t:St):Prop where
 dS:∀k∈fs,VU t k=false
 hask:∀k∈fs,hasB t k=true\/VU t k=true
 held:∀k∈fs,(hasB t k=true->∃b,c.loc k=some b)/\(VU t k=true->∃x,c.arr k=some x)
 below:WV w.heap.size ((c.Yg fs t).out fs) w w'
 le:Mem.le c.h c3.h
 new:∀p v,c3.h p=some v->c.h p=some v\/w.heap.size<=p.block\/(c.Yg fs t).out fs p.block
 ok:Pp fs c3 w'
 old:∀b,c3.out fs b->b<w.heap.size->(c.Yg fs t).out fs b
 ext:Ext (c.Yg fs t) c3
def Po.keep(hB:Po E c c3 w w' fs t){b:Nat}(h:¬(c.Yg fs t).out fs b)(e:b<w.heap.size):w'.heap[b]?=w.heap[b]?:=hB.below.block b e h
theorem Po.ext'(hB:Po E c c3 w w' fs t):Ext c<|c.back c3 fs t:=by
 refine⟨hB.le,λk b e=>?_,λk m f lv e=>?_⟩
 ·simp only[Ctx.back];split
  ·rename_i h;rw[Zw]at h;exact hB.ext.loc k b<|(VZ (tl.1 h.1) h.2).trans e
  exact e
 simp only[Ctx.back];split
 ·rename_i h;rw[Zw]at h;exact hB.ext.arr k m f lv ((VY (tl.1 h.1) h.2).trans e)
 grind
theorem ZB.AQ(f:ZB E U c a w)(hB:Po E c c3 w w' fs t):ZB E U (c.back c3 fs t) a w':=by
 have hs:=hB.below.size;have T:∀k b,c3.loc k=some b->c3.out fs b:=λk b e=>.inr<|.inl ⟨k,(hB.ok.loc k b e).1,e⟩
 have M:∀k m j b,c3.arr k=some (m,j,true)->j.ownBlock=some b->c3.out fs b:=λk m j b e Z=>.inr<|.inr ⟨k,m,j,(hB.ok.arr k m j b e Z).1,e,Z⟩
 have A:∀b o,b<w.heap.size->¬(c.Yg fs t).out fs b->c.h ⟨b,o,none⟩=none->c3.h ⟨b,o,none⟩=none:=by
  intro b o J hno I;cases hh:c3.h ⟨b,o,none⟩with
  |none=>rfl
  |some v=>
   rcases hB.new _ _ hh with h|h|h
   all_goals grind
 have hlo:∀b,(c.Yg fs t).out fs b->E.B<=b\/E.X b:=by
  rintro b (h|⟨k,_,h⟩|⟨k,m,j,_,h,i⟩)
  ·exact h.elim
  ·rcases(f.loc k b (Vn h).2.2).1 with h|h
   all_goals simp_all
  rcases(f.arr k m j b (VX h).2.2 i).1 with h|h
  all_goals simp_all
 have K:∀k b,k∈fs->hasB t k=true->c3.loc k=some b->c.loc k=some b:=by
  intro k b g i n;obtain⟨b',L⟩:=(hB.held k g).1 i;have e:=hB.ext.loc k b'<|(VZ g i).trans L;simp_all
 have W:∀b,b<w.heap.size->(c.back c3 fs t).all b->c.all b:=by
  intro b J h;rcases h with h|⟨k,h⟩|⟨k,m,j,h,i⟩
  ·exact .inl h
  ·grind [Ctx.all,Ctx.back]
  rcases XM h with⟨_,_,h⟩|⟨_,h⟩
  ·exact PF<|hB.old b (M k m j b h i) J
  exact .inr<|.inr ⟨k,m,j,h,i⟩
 have S:∀(D:Nat)(o:Obj),¬c.all D->w.heap[D]?=some o->w'.heap[D]?=some o:=λD o g i=>(hB.keep (λh=>g<|PF h) (sa.1 i).1).trans i
 refine⟨f.below.trans ⟨hB.below.os,hB.below.tape,hB.below.output,hs,λk q hX=>hB.below.block k (rp q f.hB) λh=>?_⟩,di f.hB hs,f.nt,⟨f.RR.1,λd hd=>?_⟩,λp Q=>?_,hB.ok.hw,Mem.le_trans f.hle hB.le,λp v Q=>?_,?_,?_,λk q=>?_,λb V=>?_,λk b q e=>?_,λk m j lv q e=>?_⟩
 ·grind
 ·obtain⟨D,g,i,n,h4⟩:=f.RR.2 d hd;grind
 ·obtain⟨g,i,n⟩:=f.M6 p Q;grind
 ·rcases hB.new p v Q with h|h|h
  ·exact f.hnew p v h
  ·exact .inr<|.inl<|di f.hB h
  simp_all
 ·intro k b q;rcases VS q with⟨g,i,n⟩|⟨g,n⟩
  ·obtain⟨_,u,G,N,q5⟩:=hB.ok.loc k b n;refine⟨(f.loc k b<|K k b g i n).1,u,G,λF l=>?_,λF m j l e=>?_⟩
   ·rcases VS l with⟨_,_,h⟩|⟨I,h⟩
    ·grind
    exact absurd (hB.old b (T k b n) (f.loc F b h).2.1)<|f.Xl h I
   rcases XM l with⟨_,_,h⟩|⟨I,h⟩
   ·grind
   exact absurd (hB.old b (T k b n) (f.arr F m j b h e).2.1)<|f.XD h e I
  obtain⟨O,u,G,N,q5⟩:=f.loc k b n;refine⟨O,rp u hs,λo=>A b o u (f.Xl n g)<|G o,λF l=>?_,λF m j l e=>?_⟩
  ·grind [Ctx.back]
  rcases XM l with⟨_,_,h⟩|⟨_,h⟩
  ·exact absurd (hB.old b (M F m j b h e) u) (f.Xl n g)
  grind
 ·intro k m j b q C;rcases XM q with⟨g,i,n⟩|⟨g,n⟩
  ·obtain⟨_,u,G,N⟩:=hB.ok.arr k m j b n C;refine⟨absurd i (by rw[hB.dS k g];decide),u,G,λF P H l e=>?_⟩;rcases XM l with⟨_,_,h⟩|⟨I,h⟩
   ·grind
   exact absurd (hB.old b (M k m j b n C) (f.arr F P H b h e).2.1)<|f.XD h e I
  obtain⟨O,u,G,N⟩:=f.arr k m j b n C;refine⟨O,rp u hs,λo=>A b o u (f.XD n C g)<|G o,λF P H l e=>?_⟩;rcases XM l with⟨_,_,h⟩|⟨_,h⟩
  ·exact absurd (hB.old b (M F P H b h e) u) (f.XD n C g)
  grind
 ·obtain⟨u1,u2⟩:=f.used k q;constructor
  ·cases e:(c.back c3 fs t).loc k with
   |none=>rfl
   |some b=>
    grind [VS]
  cases e:(c.back c3 fs t).arr k with
  |none=>rfl
  |some x=>
   rcases XM e with⟨g,i,_⟩|⟨_,h⟩
   ·obtain⟨b',L⟩:=(hB.held k g).2 i;simp_all
   simp_all
 ·obtain⟨g,i,n,h4⟩:=f.Y b V;refine⟨rp g hs,i,λk q=>?_,λk m j q e=>?_⟩
  ·grind [Ctx.back]
  rcases XM q with⟨_,_,h⟩|⟨_,h⟩
  ·exact f.U9 V (hB.old b (M k m j b h e) g)
  grind
 ·rcases VS e with⟨g,i,n⟩|⟨_,h⟩
  ·exact f.UU k b q<|K k b g i n
  exact f.UU k b q h
 rcases XM e with⟨g,i,_⟩|⟨_,h⟩
 ·exact absurd i (by rw[hB.dS k g];decide)
 exact f.Uw k m j lv q h
def Holds.AQ(i:ZB E U c a w)(hB:Po E c c3 w w' fs t){vy:Nat}{x:X}(P:¬vy<1000)(H:∀k∈fs,(hasB t k=true->vy≠1000+k)/\(VU t k=true->vy≠2000+k))(h:Holds c a w vy x):Holds (c.back c3 fs t) a w' vy x:=by
 have f:=hB.ext';unfold Holds at *;rw[Zm P]at h⊢;refine XH h λh=>?_
 split at h
 ·rename_i G;rw[Zn G];obtain⟨b,o,m,n,F⟩:=h;have A:=i.Xl (fs:=fs) (t:=t) m λq=>(H _ q.1).1 q.2 I
  exact⟨b,o,f.loc _ _ m,(hB.keep A (i.loc _ _ m).2.1).trans n,F.mono f⟩
 rename_i G;rw[Zm G];split at h
 ·rename_i D;rw[Zn D];obtain⟨L,vi,N,e,vs,M,m,n,F⟩:=h;have O:¬(vy - 2000∈fs/\VU t (vy - 2000)=true):=λq=>(H _ q.1).2 q.2 I
  refine⟨L,vi,N,e,vs,M.mono f,?_,⟨n.1,n.2.imp id ?_⟩,F⟩
  ·simp_all[Ctx.back]
  rintro⟨g,vz,cur,f1,f2,f3,r⟩;exact⟨g,vz,cur,f1,f2,(hB.keep (i.XD m (by rw[f1];rfl) O) (sa.1 f3).1).trans f3,r⟩
 rename_i D;rw[Zm D];obtain⟨B,J,u,K,C⟩:=h;refine⟨B,J,u.mono f.loc,K,K _ _ _ _ _ C hB.le (λp v e=>(hB.new p v e).imp id λh l=>h.elim (λh=>by have:=(i.Y _ l).1;omega) λh=>i.U9 l h) hB.ok.hw ⟨hB.below.os,hB.below.tape,hB.below.output,hB.below.size,λj Q=>by omega⟩ λb l=>hB.keep (i.U9 l) (i.Y b l).1⟩
end
variable{xo:Array TypeId}{os:List Operand}{qp:X}{ys:bi}
variable{q0:Array Oper}{s r r1 r2 r3 rg:St}{d ty:Nat}{v9:String}{v4:Array Edge}{jn:Option (Nat×Bool)}{x y z:Operand}
theorem S.Ll{g:Nat}{fs:bc}{t t':St}(hf:Vi E.P g fs ys t t' qp)
  (hcall:∀vj w,(callFunc g vj).run E.P w=.ok (.enter g vj) w) (hg:Gd q0 s jn rg) (hd:ca E d=true) (ha:V5 s os ys r) (ho:ys.all (λy=>Qv fs t y&&!X4 y)=true)
  (hl:Yw s t) (ht:t.all (WO fs t)=true) (H:t'.all (WO fs t)=true) (l:cover fs t t'=true) (hhas:fs.all (λk=>hasB t k||VU t k)=true) (hdis:fs.all (λk=>!VU t k)=true) (J:FH fs t qp=true):
  Zb E q0 ⟨some d,.call {callee:=.value<|.func g,args:=os.toArray,argTypes:=xo},ty,v9,v4,jn⟩ s (rg++(r++t)) ((d,qp)::t') []:=by
 simp only[Zw,rb]at hd;refine⟨?_,hg.looks.app<|ha.looks.app hl⟩;intro U c a w N O _ next Q hn
 have hw:=hg.wanted (o:=⟨some d,.call {callee:=.value<|.func g,args:=os.toArray,argTypes:=xo},ty,v9,v4,jn⟩) λp i=>O p<|sb _ i;have C:=OW (fs:=fs) (t:=t) (ha.rep (c:=c) (a:=a) (w:=w) λp i=>O p<|by simp[i]) ho;unfold T_;rw[Zn hw];refine⟨λ_ _=>trivial,?_⟩;rw[Oper.semAt_eq _ _ _ λcl he=>by cases he];have hfo:a.eval (.func g)=.func (.func g) #[] #[]:=rfl;have I:(execOp a.eval ⟨some d,.call {callee:=.value<|.func g,args:=os.toArray,argTypes:=xo},ty,v9,v4,jn⟩).run E.P w=.ok (.enter g (os.map a.eval).toArray) w:=by
  simp_all[execOp,resolve,Deferred.ofValue,invoke]
 rw[I];refine⟨Z,?_⟩;have j:∀p∈t,Holds c a w p.1 p.2:=λp i=>O p (by simp[i])
 have hc0:=hf (c.Yg fs t) w (os.map a.eval) (MQ N) (λp i a'=>(j p i).Yg<|bj.1 ht p i) C;have G:CallsIn E.ac (0 - 1) E.P g (os.map a.eval).toArray w _:=(callsIn_wide (n:=0)).2 hc0;refine G.mono ?_;rintro en w' ⟨u,c3,rfl,f⟩;have B:Ext (c.Yg fs t) c3:=by
  refine⟨f.le,λk b e=>?_,λk m hv lv e=>?_⟩
  ·obtain⟨D,W,_⟩:=Vn e;obtain⟨G,h2,_⟩:=Xm l D;obtain⟨x0,A,M⟩:=Wj<|h2 W;obtain⟨b',q1⟩:=TO (f.wr _ M {tmps:=#[],defers:=[]}) A G;have:=f.loc k b' q1;simp_all
  obtain⟨D,hha,_⟩:=VX e;simp_all
 have hB:Po E c c3 w w' fs t:=by
  refine⟨λk D=>?_,λk D=>?_,λk D=>⟨λh=>?_,λh=>?_⟩,f.below,f.le,λp v i=>f.new p v i,f.ok,f.out,B⟩
  ·simp_all
  ·simp_all
  ·obtain⟨x0,A,M⟩:=Wj h;exact TO (j _ M) A (Xm l D).1
  simp_all
 have q:=hB.ext';have Y:d<a.tmps.size:=by rw[N.nt];exact hd.2
 have tk:∀p∈t',1000<=p.1:=by
  intro p i;have h:=bj.1 H p i;obtain⟨vy,y⟩:=p;unfold WO at h;cases y
  case box vv=>simp_all
  case arr sz vi=>grind
  case omap es=>simp_all
  case W8 sz xr mid post=>grind
  all_goals cases h
 refine hn (c.back c3 fs t) _ w' ((N.AQ hB).put _ _) q ?_ ?_
 ·intro p i;rcases sf.1 i with rfl|i
  ·unfold Holds;rw[Zn hd.1,XN Y];exact f.res.back J
  have h:=Holds.MB (c:=c) (a':=a) (f.wr p i a)<|bj.1 H p i;exact h.put (by grind) u
 intro vy y V L;have K:d≠vy:=V (d,qp) F;by_cases G:vy<1000
 ·refine Holds.put ?_ K u;unfold Holds at L⊢;rw[Zn G]at L⊢;exact L.mono q
 refine(Holds.AQ N hB G (λk T=>⟨λh e=>?_,λh e=>?_⟩) L).put K u
 ·obtain⟨x0,_,M⟩:=Wj<|(Xm l T).2.1 h;grind
 simp_all
theorem S.Jt{g:Nat}{fs:bc}{t t':St}(hf:U_ E.P g fs ys t t' qp)(hT:TM E)
  (hcall:∀vj w,(callFunc g vj).run E.P w=.ok (.enter g vj) w) (hg:Gd q0 s jn rg) (hd:ca E d=true) (ha:V5 s os ys r) (ho:ys.all (λy=>Qv fs t y&&!X4 y)=true)
  (hl:Yw s t) (ht:t.all (WO fs t)=true) (J:t'.all (WO fs t)=true) (l:cover fs t t'=true) (hhas:fs.all (λk=>hasB t k||VU t k)=true) (hdis:fs.all (λk=>!VU t k)=true) (L:FH fs t qp=true):
  Zb E q0 ⟨some d,.call {callee:=.value<|.func g,args:=os.toArray,argTypes:=xo},ty,v9,v4,jn⟩ s (rg++(r++t)) ((d,qp)::t') []:=by
 simp only[Zw,rb]at hd;refine⟨?_,hg.looks.app<|ha.looks.app hl⟩;intro U c a w C hr _ next Q hn
 have hw:=hg.wanted (o:=⟨some d,.call {callee:=.value<|.func g,args:=os.toArray,argTypes:=xo},ty,v9,v4,jn⟩) λp i=>hr p<|sb _ i;have D:=OW (fs:=fs) (t:=t) (ha.rep (c:=c) (a:=a) (w:=w) λp i=>hr p<|by simp[i]) ho;unfold T_;rw[Zn hw];refine⟨λ_ _=>trivial,?_⟩;rw[Oper.semAt_eq _ _ _ λcl he=>by cases he];have hfo:a.eval (.func g)=.func (.func g) #[] #[]:=rfl;have K:(execOp a.eval ⟨some d,.call {callee:=.value<|.func g,args:=os.toArray,argTypes:=xo},ty,v9,v4,jn⟩).run E.P w=.ok (.enter g (os.map a.eval).toArray) w:=by
  simp_all[execOp,resolve,Deferred.ofValue,invoke]
 rw[K];refine⟨Z,?_⟩;have j:∀p∈t,Holds c a w p.1 p.2:=λp i=>hr p (by simp[i])
 have hto:Df E.P<|(c.Yg fs t).out fs:=λn N Y T G=>hT.out n N Y T (by
  have O:=hT.tab.lt n N Y T;rcases G with G|⟨k,_,G⟩|⟨k,m,hv,_,G,hX2⟩
  ·exact G.elim
  ·rcases(C.loc k Y (Vn G).2.2).1 with h|h
   ·exact absurd h<|eμ.2 O
   exact h.2
  rcases(C.arr k m hv Y (VX G).2.2 hX2).1 with h|h
  ·exact absurd h<|eμ.2 O
  exact h.2)
 have hc0:=hf (c.Yg fs t) w (os.map a.eval) (hT.now C) hto (MQ C) (λp i a'=>(j p i).Yg<|bj.1 ht p i) D;have I:CallsIn E.ac (0 - 1) E.P g (os.map a.eval).toArray w _:=(callsIn_wide (n:=0)).2 hc0;refine I.mono ?_;rintro en w' ⟨u,c3,rfl,f⟩;have B:Ext (c.Yg fs t) c3:=by
  refine⟨f.le,λk b e=>?_,λk m hv lv e=>?_⟩
  ·obtain⟨H,hhb,_⟩:=Vn e;obtain⟨I,h2,_⟩:=Xm l H;obtain⟨x0,A,W⟩:=Wj<|h2 hhb;obtain⟨b',q1⟩:=TO (f.wr _ W {tmps:=#[],defers:=[]}) A I;have:=f.loc k b' q1;simp_all
  obtain⟨H,hha,_⟩:=VX e;simp_all
 have hB:Po E c c3 w w' fs t:=by
  refine⟨λk H=>?_,λk H=>?_,λk H=>⟨λh=>?_,λh=>?_⟩,f.below,f.le,λp v i=>f.new p v i,f.ok,f.out,B⟩
  ·simp_all
  ·simp_all
  ·obtain⟨x0,A,W⟩:=Wj h;exact TO (j _ W) A (Xm l H).1
  simp_all
 have q:=hB.ext';have hdt:d<a.tmps.size:=by rw[C.nt];exact hd.2
 have tk:∀p∈t',1000<=p.1:=by
  intro p i;have h:=bj.1 J p i;obtain⟨vy,y⟩:=p;unfold WO at h;cases y
  case box vv=>simp_all
  case arr sz vi=>grind
  case omap es=>simp_all
  case W8 sz xr mid post=>grind
  all_goals cases h
 refine hn (c.back c3 fs t) _ w' ((C.AQ hB).put _ _) q ?_ ?_
 ·intro p i;rcases sf.1 i with rfl|i
  ·unfold Holds;rw[Zn hd.1,XN hdt];exact f.res.back L
  have h:=Holds.MB (c:=c) (a':=a) (f.wr p i a)<|bj.1 J p i;exact h.put (by grind) u
 intro vy y hk2 V;have M:d≠vy:=hk2 (d,qp) F;by_cases I:vy<1000
 ·refine Holds.put ?_ M u;unfold Holds at V⊢;rw[Zn I]at V⊢;exact V.mono q
 refine(Holds.AQ C hB I (λk hk3=>⟨λh e=>?_,λh e=>?_⟩) V).put M u
 ·obtain⟨x0,_,W⟩:=Wj<|(Xm l hk3).2.1 h;grind
 simp_all
abbrev BZ(f:Nat):X:=.raw<|.func (.func f) #[] #[]
variable{f:Nat}
def jk{c:Ctx}{v:Value}(h:Zc c (.fn f []) v):Zc c (BZ f) v:=by
 obtain⟨vs,rfl,b⟩:=h;have:=b.YN;subst this;rfl
def S.gp(l:Ct E.P f ys qp)(b:∀vj w,(callFunc f vj).run E.P w=.ok (.enter f vj) w)(k:Gd q0 s jn rg)(hd:ca E d=true)
  (g:YO s x (BZ f) r1) (i:V5 s os ys r) (j:ys.all V3=true):
  Zb E q0 ⟨some d,.call {callee:=.value x,args:=os.toArray,argTypes:=xo},ty,v9,v4,jn⟩ s (rg++(r1++r)) [(d,qp)] []:=
 Pj (vt:=[]) k hd (g.looks.app i.looks) b (by simpa using l.at) λc a w h=>⟨Yj (i.rep λp e=>h p<|ui _ e) j,[],g.rep (c:=c) (a:=a) (w:=w) λp e=>h p<|sb _ e,Zo⟩
theorem Good.E_{U:bc}{a:Act}{w:World}{b:Nat}{vv qs:bi}(f:Good E U s a w)(h:look s (1000+b)=some (.box vv))(e:Nat.blt b 1000=true)(g:∀(c:Ctx)(vs:List Value),Z1 (Zc c) vv vs->Z1 (Zc c) qs vs):
  Good E U ((1000+b,.box qs)::s) a w:=by
 grind [Good,look,Nat.blt_eq,Nat.eq_of_beq_eq_true,VT,Holds.MX]
def OK.E_{U:bc}{qf:Code}{Q:bo}(b:Nat){vv:bi}(qs:bi)(i:look s (1000+b)=some (.box vv))(e:Nat.blt b 1000=true)(g:∀(c:Ctx)(vs:List Value),Z1 (Zc c) vv vs->Z1 (Zc c) qs vs)
 (h:OK E qf Q U<|(1000+b,.box qs)::s):OK E qf Q U s:=λa w f=>h a w<|f.E_ i e g
def DN{x y:X}:∀(c:Ctx)(vs:List Value),Z1 (Zc c) [.fn f [],x,y] vs->Z1 (Zc c) [BZ f,x,y] vs
 |_,[],h=>h.elim
 |_,[_],h=>h.2.elim
 |_,[_,_],h=>h.2.2.elim
 |_,[_,_,_],h=>⟨jk h.1,h.2.1,h.2.2.1,Zo⟩
 |_,_::_::_::_::_,h=>h.2.2.2.elim
section
variable{E:Env}{q0:Array Oper}{s r r1 r2 r3 rg:St}{d ty:Nat}{v9:String}{v4:Array Edge}{jn:Option (Nat×Bool)}{x y z:Operand}
def S.n_{t e sz bytes k:Nat}{us u0:bi}(M:RP E.P t e sz bytes)(hg:Gd q0 s jn rg)(hd:ca E d=true)
  (T:YO s x (.agg us) r) (b:Qj (.agg us)=true) (hf:Oj (λi=>some (i * sz,sz)) (List.replicate (1 * sz) .any) [(0,.agg us)]=some us) (f:Lh us u0) (Z:Nat.beq us.length sz=true) (m:Nat.ble (1 * sz) 16777216=true) (J:E.fs.contains k=false:=by rfl) (K:Nat.blt k 1000=true:=by rfl):
  Zb E q0 ⟨some d,.buildSlice t 1 #[(0,x)],ty,v9,v4,jn⟩ s (rg++r) ((d,.own k 1)::[(2000+k,.arr sz [u0])]) [k]:=
 Zb.mk hg hd rfl T.looks λU c a w hb C L=>by
  rw[ky]at m;rw[rb]at K;have H:k∉U:=L k F;have qk:=Nat.eq_of_beq_eq_true Z;obtain⟨B,Q,Y,X⟩:=M.run;have A:=T.rep (c:=c) (a:=a) (w:=w) C;have h:∀(q:Array Value),q.size=1 * sz->Z1 (Zc c) (List.replicate (1 * sz) .any) q.toList:=λq o=>Z1.WI (by simp[o]) λi u v b _=>by
   simp only[cθ]at b;split at b
   ·cases b;exact trivial
   cases b
  obtain⟨vv,N,V⟩:=Rt (c:=c) (λi=>some (i * sz,sz)) [(0,.agg us)] [(0,a.eval x)] _ (((Array.range<|1 * sz).map λi=>(if 1 * sz=0 then #[]else Q.cells)[i % (if 1 * sz=0 then #[]else Q.cells).size]!)) us (h _ F) ⟨⟨rfl,(Ux A b).1⟩,Zo⟩ hf;have g:vv.size=1 * sz:=by have:=V.length;rw[qk]at this;simpa using this.symm
  have hB:=Ww w<|.cells vv e;obtain⟨g1,g2,W,g4⟩:=hb.NQ (KT J) H (n:=1) (v:=.slice (some ⟨w.heap.size,0,none⟩) 1 1) hB (.inr ⟨rfl,by simp⟩);have hp:=M.pos;have D:u0.length=sz:=by have:=f.length;omega
  refine⟨.slice (some ⟨w.heap.size,0,none⟩) 1 1,_,w.alloc<|.cells vv e,?_,g1,g2,⟨⟨_,_,_,rfl⟩,1,_,_,W,Zq _,λ_=>rfl⟩,?_,λvy u l _ b=>g4 vy u l b⟩
  ·have G:¬(1 * sz>2 ^ 24):=by omega
   simp only[execOp,Instr.buildSlice,Sem.run_bind,run_underlying M.OA,Result.andThen_ok,B,G,if_false];have h0:¬(1 * sz=0):=by omega
   simp only[h0,if_false]at N;have O:¬sz=0:=by omega
   simp at N;simp[Y,O,N,newRow]
  intro p j;simp only[pi]at j;subst j;refine Holds.PJ (e:=e) (vs:=vv.toList) I W ⟨by simp[g],.inr ⟨w.heap.size,1,vv,rfl,Zr _,heap_alloc_new w _,Zq _,by unfold maxLen;omega,g,?_⟩⟩ ?_ ?_
  ·show vv.toList.take (1 * sz)=_;rw[sg<|by simp[g]]
  ·intro q o;simp only[pi]at o;subst o;exact D
  have:=f.rep<|V.mono λ_ _=>Zc.mono g2;simpa using this
