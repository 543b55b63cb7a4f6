import Derived.Carry
import Derived.Laws.IdiomStrings
import Derived.Laws.StructEq
import Derived.Lib.SlicesCompact
import Derived.Lib.Strings
import Derived.ProofKit
import Derived.RangeFuncNested
import Derived.Shelf.Spec.SlicesGrow
import Derived.Sort.OwnSortedInts
import Derived.Test.YtkkbjdenehfpaaaGreatDoorFaN
set_option linter.all false
open List renaming length->R
namespace Go.Ab
open Go.RowKit
variable{a:Act}{c:Ctx}{E:Env}{k n:Nat}{v:Value}{w w':World}{U:bc}
theorem ZB.append(f:ZB E U c a w){n':Nat}{v':Value}(hk:c.arr k=some (n,v,true))(i:w.grownBy w' v.ownBlock)(hn:n<=n')(hnv:n=n'->v'=v)
  (hv:v'.ownBlock=v.ownBlock\/(v'.ownBlock=some w.heap.size/\w.heap.size<w'.heap.size)) (hcl:∀(D:Nat)(o:Obj),v.ownBlock=some D->w.heap[D]?=some o->o.isCells=true):
  ZB E U (c.own k n' v' true) a w'/\Ext c (c.own k n' v' true)/\(c.own k n' v' true).arr k=some (n',v',true)/\
   ∀vy y,¬vy<1000->vy≠2000+k->Holds c a w vy y->Holds (c.own k n' v' true) a w' vy y:=by
 have hlt:∀p v,c.h p=some v->p.block<w.heap.size:=λp v e=>block_lt_of_cell<|f.hw p v e
 have hold:∀j m u lv,c.arr j=some (m,u,lv)->∃M V lv',(c.own k n' v' true).arr j=some (M,V,lv')/\m<=M/\(m=M->V=u):=by
  grind [Ctx.own]
 have L:Ext c<|c.own k n' v' true:=⟨Mem.le_refl _,λ_ _ e=>e,hold⟩;have xi:∀j m u,(c.own k n' v' true).arr j=some (m,u,true)->(j=k/\u=v')\/(j≠k/\c.arr j=some (m,u,true)):=by
  grind [Ctx.own]
 have hvb:∀b,v'.ownBlock=some b->(v.ownBlock=some b)\/(b=w.heap.size/\b<w'.heap.size):=by
  grind
 have B:∀b,v.ownBlock=some b->E.ok k b/\b<w.heap.size/\(∀o,c.h ⟨b,o,none⟩=none)/\(∀O M hv',c.arr O=some (M,hv',true)->hv'.ownBlock=some b->O=k):=λb e=>f.arr k n v b hk e
 have Z:∀p u,c.h p=some u->w'.cell? p=some u:=by
  intro p u hp;have A:=f.hw p u hp;refine i.cell A λe=>?_
  have hsp:p.spot=none:=by
   cases hsp:p.spot with
   |none=>rfl
   |some q=>grind [World.cell?]
  have h6:=(B p.block e.symm).2.2.1 p.off;have:p=⟨p.block,p.off,none⟩:=by cases p;simp_all
  grind
 have K:∀(D:Nat)(o:Obj),w.heap[D]?=some o->o.isCells=false->w'.heap[D]?=some o:=λD o hD ho=>(i.block D (sa.1 hD).1 λe=>by grind).trans hD
 have S:∀b,b<w.heap.size->(c.own k n' v' true).all b->c.all b:=by
  intro b hlt2 ho;rcases ho with X|h|⟨j,m,u,G,F⟩
  ·exact .inl X
  ·exact .inr (.inl h)
  grind [Ctx.all]
 refine⟨⟨f.below.trans ⟨i.os,i.tape,i.output,i.size,λj t hx=>i.block j (rp t f.hB) λe=>Env.QT (B j e.symm).1 t hx rfl⟩,di f.hB i.size,f.nt,PA f S K,PR f S K,Z,f.hle,f.hnew,?_,?_,?_,?_,f.UU,?_⟩,L,by simp[Ctx.own],?_⟩
 ·intro j b t;obtain⟨A,G,F,T,h5⟩:=f.loc j b t;refine⟨A,rp G i.size,F,T,λO m u C=>?_⟩;grind
 ·intro j m u b t hbk;rcases xi j m u t with⟨rfl,rfl⟩|⟨hne,hj2⟩
  ·rcases hvb b hbk with h|⟨rfl,hltb⟩
   ·obtain⟨A,G,F,T⟩:=B b h;refine⟨A,rp G i.size,F,λO M V C W=>?_⟩;grind
   refine⟨.inl f.hB,hltb,λo=>?_,λO M V C W=>?_⟩
   ·cases hh:c.h ⟨w.heap.size,o,none⟩with
    |none=>exact hh
    |some v=>grind
   rcases xi O M V C with⟨rfl,_⟩|⟨_,C⟩
   ·rfl
   have:=(f.arr O M V _ C W).2.1;omega
  obtain⟨A,G,F,T⟩:=f.arr j m u b hj2 hbk;refine⟨A,rp G i.size,F,λO M V C W=>?_⟩;grind
 ·intro j t;refine⟨(f.used j t).1,?_⟩;simp only[Ctx.own];split
  ·rename_i e;subst e;have:=(f.used _ t).2;simp_all
  exact(f.used j t).2
 ·intro b X;obtain⟨A,G,F,T⟩:=f.Y b X;refine⟨rp A i.size,G,F,λj m u t e=>?_⟩;grind
 ·intro j m u lv t e;simp only[Ctx.own]at e;split at e
  ·rename_i e2;subst e2;cases e;obtain⟨m0,hv0,lv0,f1,f2,f3,f4,f5⟩:=f.Uw _ _ _ _ t hk;refine⟨m0,hv0,lv0,f1,I,λe=>by grind,λ_=>f4 rfl,λb hb2=>?_⟩;rcases hvb b hb2 with h|⟨h,_⟩
   ·exact f5 b h
   exact .inr<|h▸f.hB
  exact f.Uw j m u lv t e
 intro vy u hkey hne N;unfold Holds at N⊢;rw[Zm hkey]at N⊢;refine XH N λN=>?_
 split at N
 ·rename_i G;rw[Zn G];obtain⟨b,o,A,F,T⟩:=N;refine⟨b,o,A,(i.block b (f.loc _ _ A).2.1 λe=>?_).trans F,T.mono L⟩;exact(f.loc _ _ A).2.2.2.2 _ _ _ hk e.symm
 rename_i G;rw[Zm G];split at N
 ·rename_i h6;rw[Zn h6];obtain⟨sz,vi,hv2,e,vs,hx,A,F,T⟩:=N;have t:vy - 2000≠k:=I
  refine⟨sz,vi,hv2,e,vs,hx.mono L,by simp_all[Ctx.own],⟨F.1,F.2.imp id ?_⟩,T⟩;rintro⟨g,vz,cur,f1,f2,f3,f4⟩;refine⟨g,vz,cur,f1,f2,(i.block g (sa.1 f3).1 λe=>?_).trans f3,f4⟩;exact t ((B g e.symm).2.2.2 _ _ _ A<|by rw[f1];rfl)
 rename_i h6;rw[Zm h6];obtain⟨hk0,J,hx0,hJ,hJ2⟩:=N;refine⟨hk0,J,hx0,hJ,hJ _ _ _ _ _ hJ2 (Mem.le_refl _) (λ_ _ e=>.inl e) Z ⟨i.os,i.tape,i.output,i.size,λj t=>I⟩ λb X=>i.block b (f.Y b X).1 λe=>?_⟩;exact(f.Y b X).2.2.2 _ _ _ hk e.symm
variable{e sz:Nat}
def JL{B:Nat}{xs:List Value}(h:w.ownsRow B e sz v n xs):∀(D:Nat)(o:Obj),v.ownBlock=some D->w.heap[D]?=some o->o.isCells=true:=by
 intro D o f b;rcases h.2 with⟨rfl,_⟩|⟨g,vz,j,rfl,_,i,_⟩
 ·cases f
 cases f;rw[i]at b;cases b;rfl
def QU(h:YG c (.own k n) v):(∃a l e,v=.slice a l e)/\∃m b lv,c.arr k=some (m,b,lv)/\n<=m/\(n=m->v=b):=h
variable{vi:List bi}{h:Mem}{t:Nat}
variable{q0:Array Oper}{s r r1 r2 r3 rg:St}{d ty:Nat}{v9:String}{v4:Array Edge}{x y z:Operand}
section
variable{jn:Option (Nat×Bool)}
def Ht{u bytes m:Nat}{T:TypeDesc}{qr:List bi}(hA:RP E.P t e sz bytes)(hu:E.P.underlying u=some T)(M:Ad T)(hg:Gd q0 s jn rg)(hd:ca E d=true)
  (Z:YO s x (.own k n) r1) (hl:look s (2000+k)=some (.arr sz vi)) (hn:R vi=n) (K:Yw s r2) (j:∀q∈qr,R q=sz) (J:R qr=m) (O:(n+m) * bytes<=140737488355328) (N:n+m<=maxLen)
  (g:∀c a w,(∀p v,c.h p=some v->w.cell? p=some v)->(∀p∈r2,Holds c a w p.1 p.2)->∃b,Z1 (ZR c.h) qr.flatten b/\(∀w,(Builtin.lenOf<|a.eval y).run E.P w=.ok m w)/\(∀q∈b,q.oneCell'=true)/\
   ∀w':World,(∀p,w'.cell? p=w.cell? p)->(Builtin.firstCells sz m<|a.eval y).run E.P w'=.ok b.toArray w'):
  Zb E q0 ⟨some d,.call {callee:=.builtin .append,args:=#[x,y],argTypes:=#[t,u]},ty,v9,v4,jn⟩ s (rg++(r1++([(2000+k,.arr sz vi)]++r2))) ((d,.own k<|n+m)::[(2000+k,.arr sz<|vi++qr)]) []:=
 Zb.mk hg hd rfl (Z.looks.app<|Yw.app (r:=[(2000+k,.arr sz vi)]) ⟨hl,Zo⟩ K) λU c a w hb B _=>by
  subst hn;obtain⟨hv0,m0,hv,lv,e1,e2,e3⟩:=QU (Z.rep (c:=c) (a:=a) (w:=w) λp f=>B p<|by simp[f]);obtain⟨v,e',vs,g1,g2,g3,g4⟩:=Wp<|B (2000+k,.arr sz vi) F;rw[e1]at g1;cases g1;obtain⟨b,X,n2,n3,n4⟩:=g c a w hb.hw λp f=>B p (by simp[f])
  obtain⟨i,zv,i1,i2,i3,i4,i5⟩:=hA.ex;have A:R b=m * sz:=by rw[←X.length,YM j,J]
  have L:=e3 rfl;obtain⟨C,w',S,q1,q2,q3,q4,q5,q6⟩:=IW (P:=E.P) w 0 t u ty e e' T i zv sz bytes hA.OA hu M i1 i2 i3 i4 i5 _ (R vi) vs g2 (a.eval y) m b n2 A n4 n3 N O<|Zr _;obtain⟨p1,W,V,p4⟩:=hb.append (n':=R vi+m) (v':=C) e1 q3 I (λh=>q5 I) q4<|JL g2;refine⟨C,_,w',?_,p1,W,⟨q6,_,_,_,V,Zq _,λ_=>rfl⟩,?_,λvy y o G hy=>p4 vy y o (λe=>G _ (pi.2 rfl) e.symm) hy⟩
  ·simp only[execOp,resolve,invoke,builtin,Sem.run_bind,Sem.run_pure,Result.andThen_ok,bψ,ta,H2,L,q1]
  intro p f;simp only[pi]at f;subst f;refine Holds.PJ (e:=S) (lD<|B (2000+k,.arr sz vi) F) (by rw[Zs,J];exact V) (by rw[Zs,J];exact q2) (λq hq=>?_) ?_
  ·rcases List.mem_append.1 hq with h|h
   ·exact g3 q h
   exact j q h
  rw[aω];exact(g4.append X).mono λ_ _=>ZR.mono W.h
def Pg:Ad<|.slice e:=.inl ⟨e,rfl⟩
def tW{x:X}(r:ZR h x v):v.oneCell'=true:=by cases r<;>first|rfl|assumption
def SY{h:Mem}:∀{xs:bi}{vs:List Value},Z1 (ZR h) xs vs->∀q∈vs,q.oneCell'=true
 |[],[],_,q,b=>by cases b
 |_::_,v::vs,h,q,b=>by
  rcases sf.1 b with rfl|b
  ·exact tW h.1
  exact SY h.2 q b
 |[],_::_,h,_,_=>h.elim
 |_::_,[],h,_,_=>h.elim
def S.append{t e sz bytes k n j m:Nat}{vi qr:List bi}(T:RP E.P t e sz bytes)(O:Gd q0 s jn rg)(hd:ca E d=true)
  (L:YO s x (.own k n) r1) (N:look s (2000+k)=some (.arr sz vi)) (Z:R vi=n) (K:YO s y (.own j m) r2) (B:look s (2000+j)=some (.arr sz qr)) (M:R qr=m) (G:(n+m) * bytes<=140737488355328) (C:n+m<=maxLen):
  Zb E q0 ⟨some d,.call {callee:=.builtin .append,args:=#[x,y],argTypes:=#[t,t]},ty,v9,v4,jn⟩ s (rg++(r1++([(2000+k,.arr sz vi)]++(r2++[(2000+j,.arr sz qr)])))) ((d,.own k<|n+m)::[(2000+k,.arr sz<|vi++qr)]) []:=by
 have b:Yw s<|r2++[(2000+j,X.arr sz qr)]:=K.looks.app ⟨B,Zo⟩
 -- the x2 widths come qm of the state itself
 by_cases hw:∀q∈qr,R q=sz
 ·refine Ht T T.OA Pg O hd L N Z b hw M G C λc a w hh o=>?_
  subst M;obtain⟨_,m0,hv,lv,e1,e2,e3⟩:=QU (K.rep (c:=c) (a:=a) (w:=w) λp W=>o p<|by simp[W]);obtain⟨v,e',vs,g1,g2,g3,I⟩:=Wp<|o (2000+j,.arr sz qr) F;rw[e1]at g1;cases g1;have f:=e3 rfl;refine⟨vs,I,?_,SY I,?_⟩
  ·intro w2;rw[f];rcases g2.2 with⟨rfl,h0⟩|⟨g,vz,J,rfl,_⟩
   all_goals simp_all[Builtin.lenOf]
  intro w' A;rw[f];rcases g2.2 with⟨rfl,h0⟩|⟨g,vz,J,rfl,h1,h2,h3,h4,h5,h6⟩
  ·have:vs=[]:=tz (by rw[g2.1,h0];simp);simp_all[Builtin.firstCells]
  exact run_firstCells_some w' sz (R qr) ⟨g,0,none⟩ (R qr) vz vs g2.1 λi u V=>by rw[A];exact g2.cells (g:=g) rfl i u V
 refine⟨?_,O.looks.app<|L.looks.app<|Yw.app (r:=[(2000+k,.arr sz vi)]) ⟨N,Zo⟩ b⟩;intro U c a w hb o;obtain⟨v,e',vs,g1,g2,g3,I⟩:=Wp<|o (2000+j,.arr sz qr) F;simp_all
def S.V2{bytes m:Nat}{qr:List bi}(I:RP E.P t e sz bytes)(W:Gd q0 s jn rg)(hd:ca E d=true)
  (M:YO s x (.own k n) r1) (V:look s (2000+k)=some (.arr sz vi)) (T:R vi=n) (B:YO s y (.sl qr) r2) (hw:∀q∈qr,R q=sz) (C:R qr=m) (p:(n+m) * bytes<=140737488355328) (o:n+m<=maxLen):
  Zb E q0 ⟨some d,.call {callee:=.builtin .append,args:=#[x,y],argTypes:=#[t,t]},ty,v9,v4,jn⟩ s (rg++(r1++([(2000+k,.arr sz vi)]++r2))) ((d,.own k<|n+m)::[(2000+k,.arr sz<|vi++qr)]) []:=
 Ht I I.OA Pg W hd M V T B.looks hw C p o λc a w hh N=>by
  subst C;obtain⟨A,vz,f,h1,h2,K⟩:=Qb<|B.rep (c:=c) (a:=a) (w:=w) N;rcases K with rfl|⟨b,qc,L,vs,rfl,K,J,Z,X⟩
  ·refine⟨[],Zo,λw=>by rw[f];simp[Builtin.lenOf],(λq O=>by cases O),λw' g=>?_⟩;rw[f];cases A with
   |none=>simp[Builtin.firstCells]
   |some A=>exact run_firstCells_some w' sz 0 A 0 vz [] F λi u j=>by simp at j
  have G:Z1 (ZR c.h) qr.flatten vs:=Z1.WI J λi u v j f=>X i u v j f
  refine⟨vs,G,λw=>by rw[f];simp[Builtin.lenOf],SY G,λw' g=>?_⟩;rw[f];exact run_firstCells_some w' sz (R qr) ⟨b,qc,none⟩ (R qr) vz vs (by rw[←J,YM hw]) λi u j=>by rw[g,Ul];exact hh _ _<|Z i u j
theorem ZB.wG(f:ZB E U c a w)(ht:Nat.blt t 1000=true)(hl:Holds c a w t<|.own k<|R vi)(hl2:Holds c a w (2000+k)<|.arr sz vi)(O:k∉E.fs):
  ∃X,ZB E U X a w/\Ext c X/\Holds X a w t (.sl vi)/\∀vy u,2000+k≠vy->Holds c a w vy u->Holds X a w vy u:=by
 obtain⟨_,m0,C,lv,e1,e2,e3⟩:=QU<|hl.slot ht;obtain⟨v,e',vs,g1,g2,g3,g4⟩:=Wp hl2;rw[e1]at g1;cases g1;have hev:=e3 rfl;obtain⟨h',hh'⟩:∃h':Mem,h'=λp=>if C.ownBlock=some p.block then w.cell? p else c.h p:=⟨_,rfl⟩
 have S:∀b,C.ownBlock=some b->E.ok k b/\b<w.heap.size/\(∀o,c.h ⟨b,o,none⟩=none)/\(∀k' m' N,c.arr k'=some (m',N,true)->N.ownBlock=some b->k'=k):=λb e=>f.arr k _ _ b e1 e
 have xf:Mem.le c.h h':=by
  intro p u K;rw[hh'];dsimp only;split
  ·exact f.hw p u K
  exact K
 have G:∀p u,h' p=some u->c.h p=some u\/(C.ownBlock=some p.block/\w.cell? p=some u):=by
  grind
 have i:Ext c ⟨h',c.loc,λj=>if j=k then some (R vi,C,false)else c.arr j,c.Y⟩:=⟨xf,λ_ _ e=>e,λj m u lv e=>by
  grind⟩
 have n:∀j m u,(if j=k then some (R vi,C,false)else c.arr j)=some (m,u,true)->j≠k/\c.arr j=some (m,u,true):=by
  grind
 have q:∀b,b<w.heap.size->(Ctx.mk h' c.loc (λj=>if j=k then some (R vi,C,false)else c.arr j) c.Y).all b->c.all b:=by
  intro b _ ho;rcases ho with L|h|⟨j,m,u,A,V⟩
  ·exact .inl L
  ·exact .inr<|.inl h
  exact .inr<|.inr ⟨j,m,u,(n j m u A).2,V⟩
 have M:∀p u,h' p=some u->w.cell? p=some u:=by
  intro p u K;rcases G p u K with h|h
  ·exact f.hw p u h
  exact h.2
 refine⟨⟨h',c.loc,λj=>if j=k then some (R vi,C,false)else c.arr j,c.Y⟩,⟨f.below,f.hB,f.nt,PA f q λ_ _ h _=>h,PR f q λ_ _ h _=>h,M,Mem.le_trans f.hle xf,?_,?_,?_,?_,?_,f.UU,?_⟩,i,?_,?_⟩
 ·intro p u K;rcases G p u K with h|h
  ·exact f.hnew p u h
  exact .inr<|.inl<|Env.SX (S _ h.1).1 O
 ·intro j b g;obtain⟨h1,A,V,h4,h5⟩:=f.loc j b g;grind
 ·intro j m u b g T;obtain⟨hjk,g⟩:=n j m u g;obtain⟨h1,A,V,h4⟩:=f.arr j m u b g T;grind
 ·intro j g;refine⟨(f.used j g).1,?_⟩;dsimp only;split
  ·rename_i e;subst e;have:=(f.used _ g).2;grind
  exact(f.used j g).2
 ·intro b L;obtain⟨h1,A,V,h4⟩:=f.Y b L;grind
 ·intro j m u lv g e;exact f.Uw j m u lv g<|(Zm (show¬j=k fromλe=>O<|e▸g)).symm.trans e
 ·rw[rb]at ht;unfold Holds;rw[Zn ht,hev];refine ZR.WB (c:=⟨h',c.loc,_,c.Y⟩)<|ZR.JN g2 g3 g4 xf λb o T=>?_;grind
 intro vy u hne h0;unfold Holds at h0⊢;split at h0
 ·rename_i F;rw[Zn F];exact h0.mono i
 rename_i F;rw[Zm F];refine XH h0 λh0=>?_
 split at h0
 ·rename_i A;rw[Zn A];obtain⟨b,o,W,f2,f3⟩:=h0;exact⟨b,o,W,f2,f3.mono i⟩
 rename_i A;rw[Zm A];split at h0
 ·rename_i h6;rw[Zn h6];obtain⟨sz2,B,hv2,e2',Z,f4,W,f2,f3⟩:=h0;have g:vy - 2000≠k:=I
  generalize vy - 2000=j at W g;exact⟨sz2,B,hv2,e2',Z,f4.mono i,(Zm g).trans W,f2,f3⟩
 rename_i h6;rw[Zm h6];obtain⟨hk0,J,hx0,hJ,hJ2⟩:=h0;exact⟨hk0,J,hx0,hJ,hJ _ _ _ _ _ hJ2 xf (λp v e=>(G p v e).imp id λh L=>(f.Y _ L).2.2.2 _ _ _ e1 h.1) M (WV.refl _ _ _) λ_ _=>rfl⟩
theorem Good.freeze(p:Good E U s a w)(i:Nat.blt t 1000=true)(m:look s t=some (.own k n))(e:look s (2000+k)=some (.arr sz vi))(j:R vi=n)(f:k∉E.fs):
  Good E U ((t,.sl vi)::(2000+k,.any)::s) a w:=by
 subst j;obtain⟨c,q,hh⟩:=p;obtain⟨v,g,C,B,A⟩:=q.wG i (hh _ _ m) (hh _ _ e) f;refine⟨v,g,λvy x b=>?_⟩;simp only[look]at b;split at b
 ·simp_all
 split at b
 ·rename_i o;have:=Nat.eq_of_beq_eq_true o;cases b;subst this;unfold Holds;grind
 simp_all
def OK.freeze{U:bc}{qf:Code}{Q:bo}(t:Nat){k n sz:Nat}{vi:List bi}(f:Nat.blt t 1000=true)(i:look s t=some (.own k n))(b:look s (2000+k)=some (.arr sz vi))(g:R vi=n)
 (h:OK E qf Q U<|(t,.sl vi)::(2000+k,.any)::s) (e:E.fs.contains k=false:=by rfl):OK E qf Q U s:=λa w j=>h a w<|j.freeze f i b g<|KT e
end
structure StrI(P:Program)(t:Nat):Prop where
 OA:P.underlying t=some .string
variable{i:Nat}{α:Type}{l:ba}
section
variable{jn:Option (Nat×Bool)}
theorem S.Xb{p:Prop}[Decidable p](e:Gd q0 s jn rg)(hd:ca E d=true)(b:YO s x (.bool<|decide p) r):
  Zb E q0 ⟨some d,.unOp .not t x,ty,v9,v4,jn⟩ s (rg++r) [(d,.bool<|decide<|¬p)] []:=by
 grind [S.not]
theorem S.OF{l:List α}{f:α->bi}(hs:Qh E.P t e sz)(g:Gd q0 s jn rg)(hd:ca E d=true)(b:YO s x (.sl<|l.map f) r):
  Zb E q0 ⟨some d,.call {callee:=.builtin .len,args:=#[x],argTypes:=#[t]},ty,v9,v4,jn⟩ s (rg++r) [(d,.int .i64<|R l)] []:=by
 grind [S.len,Zx]
def S.Zi{l:List α}{f:α->bi}{i:Int}(hs:Qh E.P t e sz)(o:Gd q0 s jn rg)(hd:ca E d=true)(j:YO s x (.sl<|l.map f) r1)(g:YO s y (.int .i64 i) r2)
  (hi:i=n) (m:n<R l) (b:R (f l[n])=sz):Zb E q0 ⟨some d,.indexAddr t x y,ty,v9,v4,jn⟩ s (rg++(r1++r2)) [(d,.Yt<|f l[n])] []:=
 S.index (u0:=f l[n]) hs o hd j g I (by subst hi;simp[m]) b
theorem qU{a:Option Addr}{vz lo hi:Nat}(h:ZR c.h (.sl vi)<|.slice a (R vi) vz)(C:∀q∈vi,R q=sz)(h1:lo<=hi)(h2:hi<=R vi):
  ZR c.h (.sl<|(vi.take hi).drop lo) (.slice (if vz=lo then a else a.map (·.add (lo * sz))) (hi - lo)<|vz - lo):=by
 have i:R ((vi.take hi).drop lo)=hi - lo:=by simp;omega
 generalize p:(vi.take hi).drop lo=rr at i⊢;by_cases h0:hi - lo=0
 ·have:rr=[]:=tz I;subst this;rw[h0];obtain⟨S,g,m,xf,J,_⟩:=Qb (c:=c)<|ZR.WB h;cases m;exact .I3 _ _ I
 obtain⟨S,g,m,xf,J,K⟩:=Qb (c:=c)<|ZR.WB h;cases m;rcases K with rfl|⟨b,qc,f,vs,rfl,N,M,Z,X⟩
 ·simp_all
 have t:vi≠[]:=λe=>by simp_all
 obtain⟨q,T,A⟩:=List.exists_cons_of_ne_nil t;have o:f=sz:=by simp_all
 subst o;rw[Zm I,←i];have v:=YM N;have F:R rr * f=hi * f - lo * f:=by rw[i,Nat.sub_mul]
 have L:rr.flatten=(vi.flatten.drop<|lo * f).take (R rr * f):=by
  subst p;have vy:∀(vi:List bi)(n:Nat),(∀q∈vi,R q=f)->(vi.take n).flatten=vi.flatten.take (n * f)/\(vi.drop n).flatten=vi.flatten.drop (n * f):=by
   intro vi
   induction vi with
   |nil=>simp
   |cons r vi B=>
    intro n G;cases n with
    |zero=>simp
    |succ n=>
     obtain⟨W,V⟩:=B n λq A=>G q<|rl _ A
     simp_all[aρ,cξ,sg,dσ]
  grind [List.drop_take]
 have j:lo * f+R rr * f<=R vs:=by
  rw[←M,v,i,←aρ];simp_all[m8]
 have O:((⟨b,qc,none⟩:Addr).add<|lo * f)=⟨b,qc+lo * f,none⟩:=Ul b qc<|lo * f;simp only[cφ,O];refine .sl rr b (qc+lo * f) (vz - lo) f ((vs.drop<|lo * f).take<|R rr * f) I I ?_ ?_ ?_ ?_
 all_goals grind
def S.slice{α:Type}{t e sz lo hi:Nat}{l l':List α}{f:α->bi}{v B:Option Operand}(hs:Qh E.P t e sz)(hf:∀a,R (f a)=sz)(hg:Gd q0 s jn rg)(hd:ca E d=true)(L:YO s x (.sl<|l.map f) r1)
  (O:(v=none/\lo=0/\r2=[])\/∃o i,v=some o/\YO s o (.int .i64 i) r2/\i=lo) (N:(B=none/\hi=R l/\r3=[])\/∃o i,B=some o/\YO s o (.int .i64 i) r3/\i=hi) (xf:lo<=hi) (M:hi<=R l) (G:(l.take hi).drop lo=l'):
  Zb E q0 ⟨some d,.slice t x v B none,ty,v9,v4,jn⟩ s (rg++(r1++(r2++r3))) [(d,.sl<|l'.map f)] []:=by
 have Z:Yw s r2:=by rcases O with⟨_,_,rfl⟩|⟨_,_,_,h,_⟩;trivial;exact h.looks
 have X:Yw s r3:=by rcases N with⟨_,_,rfl⟩|⟨_,_,_,h,_⟩;trivial;exact h.looks
 subst G;refine Zb.val hg hd rfl (L.looks.app<|Z.app X) λc A w hh F=>?_
 have b:=L.rep (c:=c) (a:=A) (w:=w) λp m=>F p (by simp[m])
 obtain⟨a,vz,j,W,p2,_⟩:=Qb b;rw[j]at b;have hD:ZR c.h (.sl<|l.map f)<|.slice a (R<|l.map f) vz:=b;have C:=qU (lo:=lo) (hi:=hi) hD (λq hq=>by obtain⟨a,_,rfl⟩:=rx.1 hq;exact hf a) xf (by simp_all);rw[List.map_drop,List.map_take];refine⟨_,?_,ZR.WB C⟩;rw[Zx]at W j;have g:hi<=vz:=I
 have J:∀o i,YO s o (.int .i64 i) r2->A.eval o=.int .i64 i:=λo i h=>(Xq<|h.rep (c:=c) (a:=A) (w:=w) λp m=>F p<|by simp[m]).1
 have K:∀o i,YO s o (.int .i64 i) r3->A.eval o=.int .i64 i:=λo i h=>(Xq<|h.rep (c:=c) (a:=A) (w:=w) λp m=>F p<|by simp[m]).1
 rcases O with⟨rfl,rfl,rfl⟩|⟨ol,v,rfl,V,rfl⟩<;>rcases N with⟨rfl,rfl,rfl⟩|⟨oh,B,rfl,T,rfl⟩
 ·simp[execOp,j,Instr.sliceAt,Instr.slice,run_underlying hs.OA,Instr.sliceBounds,hs.size]
 ·simp[execOp,j,K _ _ T,Instr.sliceAt,Instr.slice,run_underlying hs.OA,Instr.sliceBounds,Instr.sliceBound,asIntOf,hs.size,g]
 ·have n:lo<=R l:=xf;simp[execOp,j,J _ _ V,Instr.sliceAt,Instr.slice,run_underlying hs.OA,Instr.sliceBounds,Instr.sliceBound,asIntOf,hs.size,n]
 simp[execOp,j,J _ _ V,K _ _ T,Instr.sliceAt,Instr.slice,run_underlying hs.OA,Instr.sliceBounds,Instr.sliceBound,asIntOf,hs.size,g,xf]
def S.vl{l':ba}(j:Gd q0 s jn rg)(hd:ca E d=true)(f:YO s x (.str l) r1)(e:YO s y (.str l') r2):
  Zb E q0 ⟨some d,.binOp .eql t x y i,ty,v9,v4,jn⟩ s (rg++(r1++r2)) [(d,.bool<|decide<|l=l')] []:=
 Zb.val j hd rfl (f.looks.app e.looks) λc A w _ g=>by
  have n:=(Uu<|f.rep (c:=c) (a:=A) (w:=w) λp b=>g p<|by simp[b]).1;have m:=(Uu<|e.rep (c:=c) (a:=A) (w:=w) λp b=>g p<|by simp[b]).1;refine⟨.bool<|decide<|l=l',?_,ZR.WB<|.bool _⟩;by_cases h:l=l'<;>simp[execOp,n,m,eqGuard,binOp,Op.stringOp,Lib.toList_data,h]
def S.sneq{l':ba}(j:Gd q0 s jn rg)(hd:ca E d=true)(f:YO s x (.str l) r1)(e:YO s y (.str l') r2):
  Zb E q0 ⟨some d,.binOp .neq t x y i,ty,v9,v4,jn⟩ s (rg++(r1++r2)) [(d,.bool<|decide<|l≠l')] []:=
 Zb.val j hd rfl (f.looks.app e.looks) λc A w _ g=>by
  have n:=(Uu<|f.rep (c:=c) (a:=A) (w:=w) λp b=>g p<|by simp[b]).1;have m:=(Uu<|e.rep (c:=c) (a:=A) (w:=w) λp b=>g p<|by simp[b]).1;refine⟨.bool<|decide<|l≠l',?_,ZR.WB<|.bool _⟩;by_cases h:l=l'<;>simp[execOp,n,m,eqGuard,binOp,Op.stringOp,Lib.toList_data,h]
def S.beql{p q:Bool}(j:E.P.underlying t=some .bool)(m:Gd q0 s jn rg)(hd:ca E d=true)(f:YO s x (.bool p) r1)(e:YO s y (.bool q) r2):
  Zb E q0 ⟨some d,.binOp .eql t x y i,ty,v9,v4,jn⟩ s (rg++(r1++r2)) [(d,.bool<|decide<|p=q)] []:=
 Zb.val m hd rfl (f.looks.app e.looks) λc A w _ g=>by
  have o:=R9 (f.rep (c:=c) (a:=A) (w:=w) λp b=>g p<|by simp[b]);have n:=R9 (e.rep (c:=c) (a:=A) (w:=w) λp b=>g p<|by simp[b]);refine⟨.bool<|decide<|p=q,?_,ZR.WB<|.bool _⟩;have:=run_eql_bool (P:=E.P) (w:=w) t p q j;simp only[execOp,o,n,eqGuard,Sem.run_bind];simp[this];cases p<;>cases q<;>rfl
def S.lS{p q:Bool}(j:E.P.underlying t=some .bool)(m:Gd q0 s jn rg)(hd:ca E d=true)(f:YO s x (.bool p) r1)(e:YO s y (.bool q) r2):
  Zb E q0 ⟨some d,.binOp .neq t x y i,ty,v9,v4,jn⟩ s (rg++(r1++r2)) [(d,.bool<|decide<|p≠q)] []:=
 Zb.val m hd rfl (f.looks.app e.looks) λc A w _ g=>by
  have o:=R9 (f.rep (c:=c) (a:=A) (w:=w) λp b=>g p<|by simp[b]);have n:=R9 (e.rep (c:=c) (a:=A) (w:=w) λp b=>g p<|by simp[b]);refine⟨.bool<|decide<|p≠q,?_,ZR.WB<|.bool _⟩;have:=run_neq_bool (P:=E.P) (w:=w) t p q j;simp only[execOp,o,n,eqGuard,Sem.run_bind];simp[this];cases p<;>cases q<;>rfl
def S.Xc{i:Int}(o:StrI E.P t)(f:Gd q0 s jn rg)(hd:ca E d=true)(j:YO s x (.str l) r1)(g:YO s y (.int .i64 i) r2)(hi:i=n)(q:n<R l):
  Zb E q0 ⟨some d,.index t x y,ty,v9,v4,jn⟩ s (rg++(r1++r2)) [(d,.int .u8 (l[n].toNat:Int))] []:=
 Zb.val f hd rfl (j.looks.app g.looks) λc A w _ m=>by
  have B:=(Uu<|j.rep (c:=c) (a:=A) (w:=w) λp e=>m p<|by simp[e]).1;have v:=(Xq<|g.rep (c:=c) (a:=A) (w:=w) λp e=>m p<|by simp[e]).1;subst hi;refine⟨.int .u8 (l[n].toNat:Int),?_,ZR.WB<|.int ?_⟩
  ·have b:(⟨l.toArray⟩:ByteArray).size=R l:=by show l.toArray.size=_;simp
   have f:(⟨l.toArray⟩:ByteArray)[n]?=some l[n]:=by
    rw[getElem?_pos _ _<|by rw[b];exact q];rfl
   simp[execOp,B,v,Instr.index,asIntOf,run_underlying o.OA,f]
  have:=l[n].toNat_lt;exact bν _ ⟨I,I⟩
end
inductive Qs(s:St):X->X->St->Prop
 |same {x:X}:Np [] x=true->Qs s x x []
 |own {k n sz:Nat} {rows:List bi}:look s (2000+k)=some (.arr sz rows)->rows.length=n->Qs s (.own k n) (.sl rows) [(2000+k,.arr sz rows)]
 |ZM:Qs s .ZM (.sl []) []
 |ptr {k off:Nat} {cells cells':bi}:Nat.blt k 1000=true->look s (1000+k)=some (.box cells)->cells.all BI=true->cells.drop off=cells'->Qs s (.ptr k off) (.Yt cells') [(1000+k,.box cells)]
inductive RS(s:St):bi->bi->St->Prop
 |nil:RS s [] [] []
 |cons {x y:X} {xs ys:bi} {r r':St}:Qs s x y r->RS s xs ys r'->RS s (x::xs) (y::ys) (r++r')
inductive Mh(s:St):X->X->St->Prop
 |p {x y:X} {r:St}:Qs s x y r->Yx x=false->Mh s x y r
 |same {x:X}:V3 x=true->Mh s x x []
 |fn {f:Nat} {caps caps':bi} {r:St}:RS s caps caps' r->Mh s (.fn f caps) (.fn f caps') r
 |agg {xs ys:bi} {r:St}:RS s xs ys r->xs.all (λx=>!Yx x)=true->Mh s (.agg xs) (.agg ys) r
inductive QB(s:St):bi->bi->St->Prop
 |nil:QB s [] [] []
 |cons {x y:X} {xs ys:bi} {r r':St}:Mh s x y r->QB s xs ys r'->QB s (x::xs) (y::ys) (r++r')
variable{r s:St}
def Qs.looks{x y:X}(h:Qs s x y r):Yw s r:=by
 cases h with
 |same _=>trivial
 |own h _=>exact⟨h,Zo⟩
 |ZM=>trivial
 |ptr _ h _ _=>exact⟨h,Zo⟩
def RS.looks{s:St}{x y:bi}{r:St}(h:RS s x y r):Yw s r:=by
 induction h with
 |nil=>trivial
 |cons h _ b=>exact h.looks.app b
def Mh.looks{s:St}{x y:X}{r:St}(h:Mh s x y r):Yw s r:=by
 cases h with
 |p h _=>exact h.looks
 |same _=>trivial
 |fn h=>exact h.looks
 |agg h _=>exact h.looks
def QB.looks{s:St}{x y:bi}{r:St}(h:QB s x y r):Yw s r:=by
 induction h with
 |nil=>trivial
 |cons h _ b=>exact h.looks.app b
abbrev VW(w:World):Mem:=λp=>w.cell? p
theorem Qs.rep(A:ZB E U c a w){x y:X}(h:Qs s x y r)(C:∀p∈r,Holds c a w p.1 p.2)(f:Xw c x v):Xw (ZL<|VW w) y v:=by
 cases h with
 |same K=>exact(f.cut K).mono<|UX A.hw
 |ZM=>
  have:v=.slice none 0 0:=f;subst this;exact ZR.I3 (h:=VW w) none 0<|Zr _
 | @own k n sz vi hl hn=>
   obtain⟨g,e,vs,B,q,G,j⟩:=Wp<|C (2000+k,.arr sz vi) F;obtain⟨_,m,J,lv,I,N,M⟩:=f;rw[B]at I;cases I;rw[M hn.symm];have:ZR (VW w) (.sl vi) g:=ZR.JN q G j A.hw λb o L=>by
    rfl
   exact this
 | @ptr k qc vv qs hk hl hD hd=>
   subst hd;rw[rb]at hk;obtain⟨b,B,rfl⟩:=f;obtain⟨O,T,vs,q,G,j⟩:=VT (C (1000+k,.box vv) F) hk;rw[B]at q;cases q;have t:=Od j hD;have:ZR (VW w) (.Yt<|vv.drop qc)<|.pointer<|some ⟨b,qc,none⟩:=by
    refine .Yt _ b qc (vs.toList.drop qc) (by have:=j.length;simp_all) ?_ ?_
    ·grind [cell_of_row]
    intro i x v f g;rw[m9]at f g;exact(t.get f g).mono A.hw
   exact this
def RS.rep(j:ZB E U c a w){xs ys:bi}{r:St}(h:RS s xs ys r):∀{vs:List Value},(∀p∈r,Holds c a w p.1 p.2)->Z1 (Xw c) xs vs->Z1 (Xw<|ZL<|VW w) ys vs:=by
 induction h with
 |nil=>intro vs _ h;exact(Z1.YN h)▸trivial
 |cons h _ g=>
  intro vs e i;obtain⟨v,f,rfl,n,m⟩:=i.YU;exact⟨h.rep j (λp b=>e p<|sb _ b) n,g (λp b=>e p<|ui _ b) m⟩
def P.Av{x:X}(h:Xw c x v)(b:Yx x=false):Zc c x v:=by cases x<;>first|exact h|cases b
def ab.toP{x:X}(h:Zc c x v)(b:Yx x=false):Xw c x v:=by cases x<;>first|exact h|cases b
def P.xJ{x:X}(h:Xw c x v)(b:Yx x=false):YQ c x v:=by cases x<;>first|exact h|cases b
def Qs.Yx{x y:X}{r:St}(h:Qs s x y r)(b:Yx x=false):Yx y=false:=by
 cases h with
 |same _=>exact b
 |own _ _=>rfl
 |ZM=>rfl
 |ptr _ _ _ _=>rfl
def Mh.rep(g:ZB E U c a w){x y:X}{r:St}{v:Value}(h:Mh s x y r)(o:∀p∈r,Holds c a w p.1 p.2)(e:YG c x v):YQ (ZL<|VW w) y v:=by
 cases h with
 |p h hn=>
  have A:Xw c x v:=by cases x<;>first|exact e|cases hn
  exact P.xJ (h.rep g o A)<|h.Yx hn
 |same b=>
  simp only[V3,Zw,zd]at b;exact((T.xJ e b.2).cut b.1).mono<|UX g.hw
 |fn h=>obtain⟨vs,t,q⟩:=e;exact⟨vs,t,h.rep g o q⟩
 | @agg xs f _ h hn=>
   obtain⟨vs,t,q⟩:=e;have C:∀{xs:bi}{vs:List Value},Z1 (Zc c) xs vs->xs.all (λx=>!Yx x)=true->Z1 (Xw c) xs vs:=by
    intro xs
    induction xs with
    |nil=>intro vs h _;exact(Z1.YN h)▸trivial
    |cons x xs n=>
     intro vs h b;obtain⟨v,i,rfl,m,j⟩:=h.YU;simp only[so,Zw,zd]at b;exact⟨ab.toP m b.1,n j<|by simp_all⟩
   have F:∀{xs f:bi}{r:St}{vs:List Value},RS s xs f r->xs.all (λx=>!Yx x)=true->Z1 (Xw<|ZL<|VW w) f vs->Z1 (Zc<|ZL<|VW w) f vs:=by
    intro xs f r vs B
    induction B generalizing vs with
    |nil=>intro _ h;exact(Z1.YN h)▸trivial
    |cons h _ n=>
     intro b e;obtain⟨v,i,rfl,m,j⟩:=e.YU;simp only[so,Zw,zd]at b;exact⟨P.Av m<|h.Yx b.1,n (by simp_all) j⟩
   exact⟨vs,t,F h hn<|h.rep g o<|C q hn⟩
def QB.rep(j:ZB E U c a w){xs ys:bi}{r:St}(h:QB s xs ys r):∀{vs:List Value},(∀p∈r,Holds c a w p.1 p.2)->Z1 (YG c) xs vs->Z1 (YQ<|ZL<|VW w) ys vs:=by
 induction h with
 |nil=>intro vs _ h;exact(Z1.YN h)▸trivial
 |cons h _ g=>
  intro vs e i;obtain⟨v,f,rfl,n,m⟩:=i.YU;exact⟨h.rep j (λp b=>e p<|sb _ b) n,g (λp b=>e p<|ui _ b) m⟩
def xu:X->Bool
 |.int _ _|.bool _|.str _=>true
 |_=>false
def z_:X->Bool
 |.Yy xs=>xs.all xu
 |x=>xu x
def F_{c':Ctx}{x:X}(hs:xu x=true)(h:YQ c x v):YQ c' x v:=by
 cases x<;>first|(cases h;first|exact ZR.int ‹_› |exact ZR.bool _|exact ZR.str _ ‹_›)|cases hs
def IY{c':Ctx}{x:X}(hs:z_ x=true)(h:YG c x v):YG c' x v:=by
 have q0:∀{xs:bi}{vs:List Value},Z1 (YQ c) xs vs->xs.all xu=true->Z1 (YQ c') xs vs:=by
  intro xs
  induction xs with
  |nil=>intro vs h _;exact(Z1.YN h)▸trivial
  |cons x xs i=>
   intro vs h b;obtain⟨v,e,rfl,g,f⟩:=h.YU;simp only[so,Zw]at b;exact⟨F_ b.1 g,i f b.2⟩
 cases x
 case Yy xs=>obtain⟨vs,m,j⟩:=h;exact⟨vs,m,q0 j hs⟩
 all_goals
  simp only[YG]at h⊢;exact F_ hs h
variable{xo:Array TypeId}{os:List Operand}{f:Nat}{vt ys:bi}
def N4{q0:Array Oper}{rg:St}{d ty:Nat}{v9:String}{v4:Array Edge}{jn:Option<|Nat×Bool}{G:Operand}{qp:X}
  (M:Gd q0 s jn rg) (hd:ca E d=true) (O:Yw s r) (J:∀vj w,(callFunc f vj).run E.P w=.ok (.enter f vj) w) (V:gj E f (ys++vt) qp) (hs:z_ qp=true)
  (j:∀U c a w,ZB E U c a w->(∀p∈r,Holds c a w p.1 p.2)->Z1 (YQ<|ZL<|VW w) ys (os.map a.eval)/\∃b:List Value,a.eval G=.func (.func f) #[] b.toArray/\Z1 (YQ<|ZL<|VW w) vt b):
  Zb E q0 ⟨some d,.call {callee:=.value G,args:=os.toArray,argTypes:=xo},ty,v9,v4,jn⟩ s (rg++r) [(d,qp)] []:=by
 simp only[Zw,rb]at hd;refine⟨?_,M.looks.app O⟩;intro U c a w m L _ next Q N
 have hw:=M.wanted (o:=⟨some d,.call {callee:=.value G,args:=os.toArray,argTypes:=xo},ty,v9,v4,jn⟩) λp i=>L p<|sb _ i;obtain⟨ha,b,T,hc⟩:=j U c a w m λp i=>L p<|ui _ i
 unfold T_;rw[Zn hw];refine⟨λ_ _=>trivial,?_⟩;rw[Oper.semAt_eq _ _ _ λcl W=>by cases W];have t:(execOp a.eval ⟨some d,.call {callee:=.value G,args:=os.toArray,argTypes:=xo},ty,v9,v4,jn⟩).run E.P w=.ok (.enter f (os.map a.eval++b).toArray) w:=by
  simp_all[execOp,resolve,Deferred.ofValue,invoke]
 rw[t];refine⟨Z,?_⟩;have g:=V (VW w) w (os.map a.eval++b) ⟨U,c,a,m⟩ (λp v i=>i)<|ha.append hc;have q:CallsIn E.ac (0 - 1) E.P f (os.map a.eval++b).toArray w _:=(callsIn_wide (n:=0)).2 g;refine q.mono ?_;rintro e w' ⟨v,h',rfl,hB,_,_,_,A⟩;have I:d<a.tmps.size:=by rw[m.nt];exact hd.2
 have C:ZB E U c a w':=m.below_grow hB (Mem.le_refl _) (λp v e=>.inl e) λp v e=>by
  have q:=m.hw p v e;have h2:p.block<w.heap.size:=block_lt_of_cell q;rw[hB.cell h2];exact q
 refine N c _ w' (C.put _ _) (Ext.refl c) ?_ ?_
 ·intro p i;simp only[pi]at i;subst i;unfold Holds;rw[Zn hd.1,XN I];exact IY hs A
 intro vy y S K;have B:d≠vy:=S (d,qp) F;by_cases q:vy<1000
 ·refine Holds.put ?_ B v;unfold Holds at K⊢;simp_all
 exact(Holds.below m hB (Ext.refl c) (λ_ _ _ e=>e) rfl (λ_ _ e=>.inl e) C.hw q K).put B v
variable{xs:bi}
section
variable{jn:Option (Nat×Bool)}
def S.XY{qp:X}(n:Ct E.P f ys qp)(b:∀vj w,(callFunc f vj).run E.P w=.ok (.enter f vj) w)(m:Gd q0 s jn rg)(hd:ca E d=true)
  (j:V5 s os xs r) (i:QB s xs ys r2) (hs:z_ qp=true):Zb E q0 ⟨some d,.call {callee:=.value<|.func f,args:=os.toArray,argTypes:=xo},ty,v9,v4,jn⟩ s (rg++(r++r2)) [(d,qp)] []:=
 N4 (vt:=[]) m hd (j.looks.app i.looks) b (by simpa using n.at) hs λU c a w o g=>⟨i.rep o (λp e=>g p<|ui _ e)<|j.rep λp e=>g p<|sb _ e,[],rfl,Zo⟩
def S.Dl{qp:X}(n:Q7 E.P f ys qp)(q:TM E)(b:∀vj w,(callFunc f vj).run E.P w=.ok (.enter f vj) w)(m:Gd q0 s jn rg)(hd:ca E d=true)
  (j:V5 s os xs r) (i:QB s xs ys r2) (hs:z_ qp=true):Zb E q0 ⟨some d,.call {callee:=.value<|.func f,args:=os.toArray,argTypes:=xo},ty,v9,v4,jn⟩ s (rg++(r++r2)) [(d,qp)] []:=
 N4 (vt:=[]) m hd (j.looks.app i.looks) b (by simpa using n.at q) hs λU c a w o g=>⟨i.rep o (λp e=>g p<|ui _ e)<|j.rep λp e=>g p<|sb _ e,[],rfl,Zo⟩
end
variable{b qc:Nat}{us:bi}{Q:bo}
section
variable{jn:Option (Nat×Bool)}
def S.bytes{L N:Nat}(hs:E.P.underlying L=some .string)(ht:E.P.underlying N=some (.slice e))(he:E.P.underlying e=some (.int .u8))(hg:Gd q0 s jn rg)(hd:ca E d=true)(hx:YO s x (.str l) r):
  Zb E q0 ⟨some d,.convert L N x,ty,v9,v4,jn⟩ s (rg++r) ((d,.sl<|l.map λb=>[.int .u8 b.toNat])::[]) []:=
 Zb.mk hg hd rfl hx.looks λU c a w hb hr _=>by
  obtain⟨J,qk⟩:=Uu<|hx.rep (c:=c) (a:=a) (w:=w) hr;have O:(⟨l.toArray⟩:ByteArray).size=R l:=by show l.toArray.size=_;simp
  have f:=run_bytes_of_string (P:=E.P) w L N e ⟨l.toArray⟩ hs ht he;rw[O]at f;generalize G:grownCap w (R l) 0 e=vz at f;have hc1:R l<=vz:=by rw[←G];exact grownCap_ge _ _ _ _
  have Z:vz<=maxLen:=by rw[←G];exact grownCap_le_maxLen _ _ _ _ qk
  generalize o:bytesRow (⟨l.toArray⟩:ByteArray) vz=vv at f;generalize T:Obj.cells vv e (vv.size,vv.size+1)=ob at f;have hB:Below w.heap.size w<|w.drew.alloc ob:=(Below.refl _ w).drew.alloc (Zq _) ob;have A:(w.drew.alloc ob).heap[w.heap.size]?=some ob:=heap_alloc_new w.drew ob;have F:∀j u,vv[j]?=some u->(w.drew.alloc ob).cell? ⟨w.heap.size,j,none⟩=some u:=by
   intro j u hu;subst T;rw[cell_of_row _ w.heap.size j vv e _ A];exact hu
  have K:∀(j:Nat)(b:UInt8),l[j]?=some b->vv[j]?=some (Value.int .u8 b.toNat):=by
   intro j b hj;have hjl:j<R l:=(ae.1 hj).1;rw[←o];simp[bytesRow,eζ,hjl];have:=(ae.1 hj).2;rw[this]
  obtain⟨h',B⟩:∃h':Mem,h'=λp=>if p.block=w.heap.size then(w.drew.alloc ob).cell? p else c.h p:=⟨_,rfl⟩
  have xf:Mem.le c.h h':=by
   intro p u g;rw[B];dsimp only;rw[Zm<|by have:=block_lt_of_cell<|hb.hw p u g;omega];exact g
  have M:∀p u,h' p=some u->c.h p=some u\/w.heap.size<=p.block:=λp u g=>by
   rw[B]at g;dsimp only at g;split at g
   ·exact .inr I
   exact .inl g
  have n:=hb.below_grow hB xf M (λp u g=>by
   rw[B]at g;dsimp only at g;split at g
   ·exact g
   rw[hB.cell<|block_lt_of_cell<|hb.hw p u g];exact hb.hw p u g)
  have C:Ext c ⟨h',c.loc,c.arr,c.Y⟩:=⟨xf,λ_ _ e=>e,λ_ m J lv e=>⟨m,J,lv,e,Zq _,λ_=>rfl⟩⟩;refine⟨.slice (some ⟨w.heap.size,0,none⟩) (R l) vz,⟨h',c.loc,c.arr,c.Y⟩,_,?_,n,C,?_,(λp g=>by cases g),λvy u V _ hu=>Holds.below hb hB C (λ_ _ _ e=>e) rfl M n.hw V hu⟩
  ·simp only[execOp,J];rw[Sem.run_bind,f];rfl
  have:ZR h' (.sl<|l.map λb=>[X.int .u8 b.toNat])<|.slice (some ⟨w.heap.size,0,none⟩) (R<|l.map λb=>[X.int .u8 b.toNat]) vz:=by
   have W:(l.map λb=>[X.int .u8 (b.toNat:Int)]).flatten=l.map λb=>X.int .u8 b.toNat:=by
    clear o T F K B xf n M C A hB f G hc1 Z qk J hx O
    induction l with
    |nil=>rfl
    |cons b l ih=>simp only[ta,P1,ih,aδ]
   refine .sl _ _ _ _ 1 (l.map λb=>Value.int .u8 b.toNat) (by simpa using hc1) Z (λq hq=>by obtain⟨b,_,rfl⟩:=rx.1 hq;rfl) (by rw[W];simp) ?_ ?_
   ·intro i v hi;rw[dp]at hi;cases t:l[i]? with
    |none=>rw[t]at hi;cases hi
    |some b=>
     rw[t]at hi;cases hi;rw[B];dsimp only;rw[Zn rfl,wc];exact F i _<|K i b t
   intro i u v hi J;rw[W,dp]at hi;rw[dp]at J;cases t:l[i]? with
   |none=>rw[t]at hi;cases hi
   |some b=>
    rw[t]at hi J;cases hi;cases J;exact .int (by
     have:=UInt8.toNat_lt b;exact bν _ I)
  rw[Zx]at this;exact ZR.WB (c:=⟨h',c.loc,c.arr,c.Y⟩) this
def O9(h:YG c (.Wt k n qc) v):∃m e lv,c.arr k=some (m,e,lv)/\n<=m/\(n=m->∃b l f,e=.slice (some ⟨b,0,none⟩) l f/\v=.pointer (some ⟨b,qc,none⟩)):=h
def S.Mb{j:Int}(hs:Qh E.P t e sz)(K:Gd q0 s jn rg)(hd:ca E d=true)(B:YO s x (.own k n) r1)(I:look s (2000+k)=some (.arr sz vi))(G:R vi=n)
  (q:YO s y (.int .i64 j) r2) (J:j=i) (hi:i<n):Zb E q0 ⟨some d,.indexAddr t x y,ty,v9,v4,jn⟩ s (rg++(r1++(r2++[(2000+k,.arr sz vi)]))) [(d,.Wt k n<|i * sz)] []:=
 Zb.val K hd rfl (B.looks.app<|q.looks.app ⟨I,Zo⟩) λc A w hh b=>by
  subst G;subst J;obtain⟨_,m,N,lv,C,W,L⟩:=QU (B.rep (c:=c) (a:=A) (w:=w) λp f=>b p<|by simp[f]);obtain⟨hw,_⟩:=Xq (q.rep (c:=c) (a:=A) (w:=w) λp f=>b p<|by simp[f]);obtain⟨v,X,vs,g1,g2,V,T⟩:=Wp<|b (2000+k,.arr sz vi) F;rw[C]at g1;cases g1;have o:=L rfl;rcases g2.2 with⟨_,h0⟩|⟨g,vz,M,rfl,_⟩
  ·omega
  refine⟨.pointer<|some ⟨g,i * sz,none⟩,?_,R vi,_,_,C,Zq _,λ_=>⟨g,R vi,vz,rfl,rfl⟩⟩;simp[execOp,o,hw,Instr.indexAt,asIntOf,run_underlying hs.OA,hs.size,Ul];intro O;omega
def S.EZ{T:Nat}{u:X}(B:W5 E.P T false e)(I:Gd q0 s jn rg)(hd:ca E d=true)(o:YO s x (.Wt k n qc) r)(G:look s (2000+k)=some (.arr sz vi))(C:R vi=n)
  (t:vi.flatten[qc]?=some u):Zb E q0 ⟨some d,.load T x,ty,v9,v4,jn⟩ s (rg++(r++[(2000+k,.arr sz vi)])) [(d,u)] []:=
 Zb.val I hd rfl (o.looks.app ⟨G,Zo⟩) λc A w hh q=>by
  subst C;obtain⟨m,M,lv,L,O,K⟩:=O9 (o.rep (c:=c) (a:=A) (w:=w) λp j=>q p<|by simp[j]);obtain⟨v,V,vs,g1,g2,N,J⟩:=Wp<|q (2000+k,.arr sz vi) F;rw[L]at g1;cases g1;obtain⟨b,l,W,rfl,j⟩:=K rfl;obtain⟨v,f,i⟩:=J.WN t;refine⟨v,?_,ZR.WB i⟩;simp only[execOp,j];rw[Sem.run_bind,RI B (v:=v)]
  ·rfl
  have:=g2.cells (g:=b) rfl qc v f;rwa [Ul,wc]at this
def S.rX{T o:Nat}(C:XJ E.P T f o)(B:Gd q0 s jn rg)(hd:ca E d=true)(g:YO s x (.Wt k n qc) r)(t:look s (2000+k)=some (.arr sz vi))(q:R vi=n):
  Zb E q0 ⟨some d,.fieldAddr T x f,ty,v9,v4,jn⟩ s (rg++(r++[(2000+k,.arr sz vi)])) [(d,.Wt k n<|qc+o)] []:=
 Zb.val B hd rfl (g.looks.app ⟨t,Zo⟩) λc A w hh i=>by
  subst q;obtain⟨m,J,lv,j,M,G⟩:=O9 (g.rep (c:=c) (a:=A) (w:=w) λp e=>i p<|by simp[e]);obtain⟨v,N,vs,g1,g2,L,K⟩:=Wp<|i (2000+k,.arr sz vi) F;rw[j]at g1;cases g1;obtain⟨b,l,I,rfl,e⟩:=G rfl;refine⟨.pointer<|some ⟨b,qc+o,none⟩,?_,R vi,_,_,j,Zq _,λ_=>⟨b,l,I,rfl,rfl⟩⟩;simp only[execOp,e];rw[Sem.run_bind,Sk C];rfl
theorem ZB.freeze{q:Value}(f:ZB E U c a w)(e1:c.arr k=some (n,q,true))(N:k∉E.fs):
  ∃V,ZB E U V a w/\Ext c V/\(∀p,q.ownBlock=some p.block->V.h p=w.cell? p)/\∀vy y,¬vy<1000->vy≠2000+k->Holds c a w vy y->Holds V a w vy y:=by
 obtain⟨h',hh'⟩:∃h':Mem,h'=λp=>if q.ownBlock=some p.block then w.cell? p else c.h p:=⟨_,rfl⟩
 have O:∀b,q.ownBlock=some b->E.ok k b/\b<w.heap.size/\(∀o,c.h ⟨b,o,none⟩=none)/\(∀k' m' M,c.arr k'=some (m',M,true)->M.ownBlock=some b->k'=k):=λb e=>f.arr k _ _ b e1 e
 have xf:Mem.le c.h h':=by
  intro p u F;rw[hh'];dsimp only;split
  ·exact f.hw p u F
  exact F
 have G:∀p u,h' p=some u->c.h p=some u\/(q.ownBlock=some p.block/\w.cell? p=some u):=by
  grind
 have i:Ext c ⟨h',c.loc,λj=>if j=k then some (n,q,false)else c.arr j,c.Y⟩:=⟨xf,λ_ _ e=>e,λj m u lv e=>by
  grind⟩
 have t:∀j m u,(if j=k then some (n,q,false)else c.arr j)=some (m,u,true)->j≠k/\c.arr j=some (m,u,true):=by
  grind
 have A:∀b,b<w.heap.size->(Ctx.mk h' c.loc (λj=>if j=k then some (n,q,false)else c.arr j) c.Y).all b->c.all b:=by
  intro b _ ho;rcases ho with K|h|⟨j,m,u,B,S⟩
  ·exact .inl K
  ·exact .inr<|.inl h
  exact .inr<|.inr ⟨j,m,u,(t j m u B).2,S⟩
 have L:∀p u,h' p=some u->w.cell? p=some u:=by
  intro p u F;rcases G p u F with h|h
  ·exact f.hw p u h
  exact h.2
 refine⟨⟨h',c.loc,λj=>if j=k then some (n,q,false)else c.arr j,c.Y⟩,⟨f.below,f.hB,f.nt,PA f A λ_ _ h _=>h,PR f A λ_ _ h _=>h,L,Mem.le_trans f.hle xf,?_,?_,?_,?_,?_,f.UU,?_⟩,i,λp F=>by grind,?_⟩
 ·intro p u F;rcases G p u F with h|h
  ·exact f.hnew p u h
  exact .inr<|.inl<|Env.SX (O _ h.1).1 N
 ·intro j b g;obtain⟨h1,B,S,h4,h5⟩:=f.loc j b g;grind
 ·intro j m u b g hbk;obtain⟨hjk,g⟩:=t j m u g;obtain⟨h1,B,S,h4⟩:=f.arr j m u b g hbk;grind
 ·intro j g;refine⟨(f.used j g).1,?_⟩;dsimp only;split
  ·rename_i e;subst e;have:=(f.used _ g).2;grind
  exact(f.used j g).2
 ·intro b K;obtain⟨h1,B,S,h4⟩:=f.Y b K;grind
 ·intro j m u lv g e;exact f.Uw j m u lv g<|(Zm (show¬j=k fromλe=>N<|e▸g)).symm.trans e
 intro vy u hlt hne h0;unfold Holds at h0⊢;rw[Zm hlt]at h0⊢;refine XH h0 λh0=>?_
 split at h0
 ·rename_i B;rw[Zn B];obtain⟨b,o,T,f2,f3⟩:=h0;exact⟨b,o,T,f2,f3.mono i⟩
 rename_i B;rw[Zm B];split at h0
 ·rename_i h6;rw[Zn h6];obtain⟨X,C,hv2,e2',W,f4,T,f2,f3⟩:=h0;have g:vy - 2000≠k:=I
  generalize vy - 2000=j at T g;exact⟨X,C,hv2,e2',W,f4.mono i,(Zm g).trans T,f2,f3⟩
 rename_i h6;rw[Zm h6];obtain⟨hk0,J,Z,hJ,hJ2⟩:=h0;exact⟨hk0,J,Z,hJ,hJ _ _ _ _ _ hJ2 xf (λp v e=>(G p v e).imp id λh K=>(f.Y _ K).2.2.2 _ _ _ e1 h.1) L (WV.refl _ _ _) λ_ _=>rfl⟩
def rj{O N:X}(hcall:∀vj w,(callFunc f vj).run E.P w=.ok (.enter f vj) w)(hg:Gd q0 s jn rg)(hd:ca E d=true)
  (hx:YO s x (.own k n) r) (hl:look s (2000+k)=some (.arr sz vi)) (hn:R vi=n)
  (j:∀U c a w i e vs,k<1000->ZB E U c a w->c.arr k=some (n,i,true)->w.ownsRow 0 e sz i n vs->(∀q∈vi,R q=sz)->Z1 (ZR c.h) vi.flatten vs->
   Calls E.P f #[i] w λen w'=>∃v A,en=.returned v/\ZB E U A a w'/\Ext c A/\YG A O v/\Holds A a w' (2000+k) N/\∀vy y,¬vy<1000->vy≠2000+k->Holds c a w vy y->Holds A a w' vy y):
  Zb E q0 ⟨some d,.call {callee:=.value<|.func f,args:=#[x],argTypes:=xo},ty,v9,v4,jn⟩ s (rg++(r++[(2000+k,.arr sz vi)])) [(d,O),(2000+k,N)] []:=by
 simp only[Zw,rb]at hd;refine⟨?_,hg.looks.app<|hx.looks.app ⟨hl,Zo⟩⟩;intro U c a w hb L _ next Q T
 have hw:=hg.wanted (o:=⟨some d,.call {callee:=.value<|.func f,args:=#[x],argTypes:=xo},ty,v9,v4,jn⟩) λp B=>L p<|sb _ B;subst hn;obtain⟨_,m,i,lv,e1,e2,e3⟩:=QU (hx.rep (c:=c) (a:=a) (w:=w) λp B=>L p<|by simp[B]);obtain⟨v,e',vs,g1,g2,g3,g4⟩:=Wp<|L (2000+k,.arr sz vi) F;rw[e1]at g1;cases g1;have hev:=e3 rfl;unfold T_;rw[Zn hw];refine⟨λ_ _=>trivial,?_⟩;rw[Oper.semAt_eq _ _ _ λcl he=>by cases he];have C:(execOp a.eval ⟨some d,.call {callee:=.value<|.func f,args:=#[x],argTypes:=xo},ty,v9,v4,jn⟩).run E.P w=.ok (.enter f #[i]) w:=by
  have hfo:a.eval (.func f)=.func (.func f) #[] #[]:=rfl;simp_all[execOp,resolve,Deferred.ofValue,invoke]
 rw[C];refine⟨Z,?_⟩;have b:=j U c a w i e' vs (lD<|L (2000+k,.arr sz vi) F) hb e1 g2 g3 g4;have M:CallsIn E.ac (0 - 1) E.P f #[i] w _:=(callsIn_wide (n:=0)).2 b;refine M.mono ?_;rintro en w' ⟨v,A,rfl,hb',g,S,t,V⟩;have W:d<a.tmps.size:=by rw[hb.nt];exact hd.2
 refine T A _ w' (hb'.put _ _) g ?_ ?_
 ·intro p B;simp only[sf,H4,or_false]at B;rcases B with rfl|rfl
  ·unfold Holds;rw[Zn hd.1,XN W];exact S
  exact t.put I v
 intro vy y hk K;have J:d≠vy:=hk (d,O) F;have G:2000+k≠vy:=hk (2000+k,N) F;by_cases M:vy<1000
 ·refine Holds.put ?_ J v;unfold Holds at K⊢;rw[Zn M]at K⊢;exact K.mono g
 exact(V vy y M (λe=>G e.symm) K).put J v
structure De(P:Program)(f:Nat):Prop where
 some:∀(blk off cap:Nat)(zs:bd)(w:World),Go.Sort.Holds (Value.int .i64) w blk off zs.toArray->blk<w.heap.size->zs.length<4611686018427387904->
  Calls P f #[.slice (some ⟨blk,off,none⟩) zs.length cap] w λe w'=>e=.returned (.tuple #[])/\∃n os,w'=Go.Sort.grow (Go.Sort.putRow (Value.int .i64) (Go.Sort.ahead w n) blk off (zs.mergeSort λx y=>decide<|x<=y).toArray) os
 none:∀(p:Option Addr)(cap:Nat)(w:World),Calls P f #[.slice p 0 cap] w λe w'=>e=.returned (.tuple #[])/\w'=w
theorem UC{α:Type}(g:α->X):∀l:List α,(l.map λn=>[g n]).flatten=l.map g
 |[]=>rfl
 |n::l=>by simp only[ta,P1,UC g l,aδ]
def LA{h:Mem}:∀{zs:bd}{vs:List Value},Z1 (ZR h) (zs.map λn=>X.int .i64 n) vs->vs=zs.map (Value.int .i64)
 |[],[],_=>rfl
 |z::zs,v::vs,h=>by
  have b:=h.1;cases b;rw[ta,LA h.2]
 |[],_::_,h=>h.elim
 |_::_,[],h=>h.elim
theorem Gq{h':Mem}{zs ts:bd}(hs:Z1 (ZR h) (zs.map λn=>X.int .i64 n)<|zs.map<|Value.int .i64)(m:∀t∈ts,t∈zs):Z1 (ZR h') (ts.map λn=>X.int .i64 n)<|ts.map<|Value.int .i64:=by
 refine Z1.WI F λi u v f e=>?_
 rw[dp]at f e;cases hi:ts[i]? with
 |none=>simp_all
 |some t=>
  rw[hi]at f e;cases f;cases e;have o:=m t<|mr hi;obtain⟨j,g⟩:=bω o;have p:=hs.get (i:=j) (a:=.int .i64 t) (b:=.int .i64 t) (by simp[g]) (by simp[g]);cases p;exact .int ‹_›
theorem S.sortI{zs:bd}(C:De E.P f)(i:∀vj w,(callFunc f vj).run E.P w=.ok (.enter f vj) w)(Z:Gd q0 s jn rg)(hd:ca E d=true)
  (V:YO s x (.own k n) r) (W:look s (2000+k)=some (.arr 1 vi)) (A:R vi=n) (T:vi=zs.map λn=>[X.int .i64 n]) (o:n<4611686018427387904):
  Zb E q0 ⟨some d,.call {callee:=.value<|.func f,args:=#[x],argTypes:=xo},ty,v9,v4,jn⟩ s (rg++(r++[(2000+k,.arr 1 vi)])) [(d,.Yy []),(2000+k,.arr 1<|(zs.mergeSort λx y=>decide<|x<=y).map λn=>[.int .i64 n])] []:=by
 refine rj i Z hd V W A λU c a w hv e vs m G J g2 g3 I=>?_
 subst T;rw[Zx]at A;subst A;rw[UC]at I;have v:=LA I;subst v;have b:=bμ zs λx y=>decide<|x<=y;rcases g2.2 with⟨rfl,h0⟩|⟨g,vz,p,rfl,O,t,N,M,L,p6⟩
 ·have:zs=[]:=tz h0;subst this;refine(C.none Option.none 0 w).mono ?_;rintro en w' ⟨rfl,rfl⟩;have he:([]:bd).mergeSort (λx y=>decide<|x<=y)=[]:=F
  rw[he];exact⟨_,c,rfl,G,Ext.refl c,⟨[],rfl,Zo⟩,(Holds.PJ (e:=e) (vi:=[]) (vs:=[]) m J (by grind) (λ_ h=>by cases h) Zo).2,λvy y _ _ h=>h⟩
 have hH:=holds_of_blockI t (ss:=zs) (by grind);have B:g<w.heap.size:=(sa.1 t).1;refine(C.some g 0 vz zs w hH B o).mono ?_;rintro en w' ⟨rfl,q,os,rfl⟩;obtain⟨r1,r2,r3,K⟩:=G.append (n':=R zs) (v':=.slice (some ⟨g,0,none⟩) (R zs) vz) J (grownBy_sortedI (w:=w) (g:=g) (n:=q) (os:=os) (zs.mergeSort λx y=>decide<|x<=y).toArray) (Zq _) (λ_=>rfl) (.inl rfl)<|JL g2;have j:=ownsRow_sortedI (w:=w) (base:=0) (g:=g) (cap:=vz) (n:=q) (e:=e) (os:=os) (cur:=p) (ss:=zs) (ts:=zs.mergeSort λx y=>decide<|x<=y) b.length_eq O t N M L;refine⟨_,_,rfl,r1,r2,⟨[],rfl,Zo⟩,(Holds.PJ (e:=e) (vi:=(zs.mergeSort λx y=>decide<|x<=y).map λn=>[X.int .i64 n]) m (by rw[Zx,b.length_eq];exact r3) (by rw[Zx,b.length_eq];exact j)
  (λq hq=>by grind) (by grind [UC,Gq])).2,λvy y h1 h2 h3=>K vy y h1 h2 h3⟩
theorem Good.VL{vv qs:bi}(K:Good E U s a w)(M:look s (1000+b)=some (.box vv))(f:Nat.blt b 1000=true)(hi:vv[i]?=some .ZM)(L:vv.set i (.own k 0)=qs)(S:(U.contains k)=false)(t:k∉E.fs)(A:Nat.blt k 1000=true):
  Good E (k::U) ((1000+b,.box qs)::(2000+k,.arr sz [])::s) a w:=by
 subst L;obtain⟨c,C,hh⟩:=K;have q:k∉U:=by grind
 rw[rb]at f A;obtain⟨g1,g2,J,T⟩:=C.NQ t q (n:=0) (v:=.slice none 0 0) (Below.refl _ w)<|.inl rfl;refine⟨_,g1,λvy y g=>?_⟩;simp only[look]at g;split at g
 ·rename_i h;have:=Nat.eq_of_beq_eq_true h;cases g;subst this;obtain⟨V,W,vs,O,N,F⟩:=VT (hh _ _ M) f;refine(Holds.MX f (g2.loc _ _ O) N ?_).2;refine Z1.WI (by simpa using F.length) λj u v m G=>?_
  rw[aχ]at m;split at m
  ·rename_i B;subst B;split at m
   ·cases m;have o:v=.slice none 0 0:=F.get hi G;subst o;exact⟨⟨none,0,0,rfl⟩,0,_,_,J,Zq _,λ_=>rfl⟩
   cases m
  exact(F.get m G).mono g2
 split at g
 ·rename_i h;have:=Nat.eq_of_beq_eq_true h;cases g;subst this;exact(Holds.PJ (e:=0) (vi:=[]) (vs:=[]) I J (cκ w _ 0 sz) (λ_ h=>by cases h) Zo).2
 have h0:=hh vy y g;by_cases p:vy<1000
 ·unfold Holds at h0⊢;rw[Zn p]at h0⊢;exact h0.mono g2
 simp_all
def OK.VL{U:bc}{qf:Code}{Q:bo}(b i k sz:Nat){vv qs:bi}(o:look s (1000+b)=some (.box vv))(g:Nat.blt b 1000=true)(hi:vv[i]?=some .ZM)(n:vv.set i (.own k 0)=qs)(j:(U.contains k)=false)
 (h:OK E qf Q (k::U)<|(1000+b,.box qs)::(2000+k,.arr sz [])::s) (e:E.fs.contains k=false:=by rfl) (f:Nat.blt k 1000=true:=by rfl):OK E qf Q U s:=λa w m=>h a w<|m.VL o g hi n j (KT e) f
theorem Good.TP{vv qs:bi}(W:Good E U s a w)(Z:look s (1000+b)=some (.box vv))(f:Nat.blt b 1000=true)(hi:vv[i]?=some (.own k n))(V:look s (2000+k)=some (.arr sz vi))(T:R vi=n)
  (X:vv.set i (.sl vi)=qs) (C:k∉E.fs):Good E U ((1000+b,.box qs)::(2000+k,.any)::s) a w:=by
 subst X;subst T;obtain⟨c,G,hh⟩:=W;rw[rb]at f;obtain⟨hv,e',vs,g1,g2,g3,g4⟩:=Wp<|hh _ _ V;obtain⟨M,f1,A,f3,f4⟩:=G.freeze g1 C;refine⟨M,f1,λvy y g=>?_⟩;simp only[look]at g;split at g
 ·rename_i h;have:=Nat.eq_of_beq_eq_true h;cases g;subst this;obtain⟨b',T',N,h2,h3,J⟩:=VT (hh _ _ Z) f;refine(Holds.MX f (A.loc _ _ h2) h3 ?_).2;refine Z1.WI (by simpa using J.length) λj u v p q=>?_
  rw[aχ]at p;split at p
  ·rename_i F;subst F;split at p
   ·cases p;obtain⟨_,m,O,lv,L,e2,e3⟩:=J.get hi q;rw[g1]at L;cases L;rw[e3 rfl];exact ZR.Av (c:=M)<|ZR.JN g2 g3 g4 A.h λb o I=>f3 _ I
   cases p
  exact(J.get p q).mono A
 split at g
 ·rename_i h;have:=Nat.eq_of_beq_eq_true h;cases g;subst this;unfold Holds;grind
 rename_i K t;have h0:=hh vy y g;have S:vy≠2000+k:=λe=>t (by simp_all)
 by_cases B:vy<1000
 ·unfold Holds at h0⊢;rw[Zn B]at h0⊢;exact h0.mono A
 simp_all
def OK.TP{U:bc}{qf:Code}{Q:bo}(b i:Nat){k n sz:Nat}{vi:List bi}{vv qs:bi}(p:look s (1000+b)=some (.box vv))(f:Nat.blt b 1000=true)(hi:vv[i]?=some (.own k n))(j:look s (2000+k)=some (.arr sz vi))(g:R vi=n)
 (o:vv.set i (.sl vi)=qs) (h:OK E qf Q U<|(1000+b,.box qs)::(2000+k,.any)::s) (e:E.fs.contains k=false:=by rfl):OK E qf Q U s:=λa w m=>h a w<|m.TP p f hi j g o<|KT e
def OK.Qd{c:Code}(t i:Nat)(vi:List bi)(e:Nat.blt t 1000=true)(g:look s t=some (.agg us))(hi:us[i]?=some (.sl vi))(h:R vi<=maxLen->OK E c Q U s):OK E c Q U s:=by
 intro a w b;refine h ?_ a w b;obtain⟨cx,p,hh⟩:=b;obtain⟨vs,_,j⟩:=(hh _ _ g).slot e;obtain⟨v,o,f⟩:=j.WN hi;obtain⟨a,vz,_,n,m,_⟩:=Qb (c:=cx)<|ZR.WB (show ZR cx.h (.sl vi) v from f);omega
def OK.fR{c:Code}(t i:Nat){n:Int}(e:Nat.blt t 1000=true)(g:look s t=some (.agg us))(hi:us[i]?=some (.int .i64 n))(h: -9223372036854775808<=n/\n<=9223372036854775807->OK E c Q U s):OK E c Q U s:=by
 intro a w b;refine h ?_ a w b;obtain⟨cx,o,hh⟩:=b;obtain⟨vs,_,j⟩:=(hh _ _ g).slot e;obtain⟨v,m,f⟩:=j.WN hi;cases f;exact i64_bd ‹_›
structure dw(P:Program)(t n:Nat):Prop where
 guard:P.eqGuardType P.depth t=false
 run:∀(xs ys:bd)(w:World),xs.length=n->ys.length=n->(binOp .eql t (.agg (xs.map<|Value.int .i64).toArray)<|.agg (ys.map<|Value.int .i64).toArray).run P w=.ok (.bool<|decide<|xs=ys) w
 runN:∀(xs ys:bd)(w:World),xs.length=n->ys.length=n->(binOp .neq t (.agg (xs.map<|Value.int .i64).toArray)<|.agg (ys.map<|Value.int .i64).toArray).run P w=.ok (.bool<|decide<|xs≠ys) w
theorem Qe{P:Program}{T d:Nat}(hi:P.underlying T=some (.int .i64))(m:∀w,(isAgg T).run P w=.ok false w)(xs ys:bd)(w:World)(t:R xs=R ys):∀(fs:List Field)(o:Nat),
  fs.map (λf => (f.name == "_", f.type, f.offset)) = (List.range' o<|R fs).map (λi => (false, T, i)) -> o + R fs = R xs -> xs.take o = ys.take o ->
  (Op.eqFields (d+1) (xs.map<|Value.int .i64).toArray (ys.map<|Value.int .i64).toArray fs).run P w=.ok (decide<|xs=ys) w
 |[],o,_,ho,ht=>by
  simp_all[sg,Op.eqFields]
 |f::fs,o,b,ho,ht=>by
  simp only[ta,tt,bχ,v6,aψ,beq_eq_false_iff_ne]at b;obtain⟨⟨A,v,B⟩,b⟩:=b;simp only[tt]at ho;have q:o<R xs:=I
  have p:o<R ys:=I
  have n:∀(l:bd)(h:o<R l),(part f.type (l.map<|Value.int .i64).toArray f.offset).run P w=.ok (.int .i64 l[o]) w:=by
   simp_all[part]
  simp only[Op.eqFields];rw[Zn A];simp only[Sem.run_bind,n xs q,n ys p,Result.andThen_ok];rw[v,run_equalIn_int _ _ _ _ _ _ _ hi];simp only[Result.andThen_ok];by_cases j:xs[o]=ys[o]
  ·simp only[j,beq_self_eq_true,Bool.not_true,bξ,if_false];exact Qe hi m xs ys w t fs (o+1) b I (by grind [List.take_succ_eq_append_getElem])
  have g:xs≠ys:=λe=>j (by subst e;rfl)
  simp[j,g]
theorem dw.r7{P:Program}{T:Nat}{fs:Array Field}(p:P.eqGuardType P.depth t=false)(v:P.underlying t=some (.struct fs))(o:P.stoodInHeld t=false)
  (q : fs.toList.map (λf => (f.name == "_", f.type, f.offset)) = (List.range' 0 n).map (λi => (false, T, i))) (hi : P.underlying T = some (.int .i64)) (g : ∀ w, (isAgg T).run P w = .ok false w) : dw P t n := by
 have A:R fs.toList=n:=by simpa using rn List.length q
 have e:P.fieldsOf t=fs:=by grind [Program.fieldsOf]
 have vy:∀(xs b:bd)(w:World),R xs=n->R b=n->(Op.equalIn 10000 t (.agg (xs.map<|Value.int .i64).toArray)<|.agg (b.map<|Value.int .i64).toArray).run P w=.ok (decide<|xs=b) w:=by
  intro xs b w m j;rw[run_equalIn_struct w 9999 t _ _ (by simp_all) o,e];exact Qe (d:=9998) hi g xs b w I fs.toList 0 (by simp_all) I rfl
 refine⟨p,λxs b w m j=>?_,λxs b w m j=>?_⟩
 all_goals simp_all[run_eql_struct,run_neq_struct]
theorem Hi{xs:bd}(h:YG c (.agg<|xs.map λn=>.int .i64 n) v):v=.agg (xs.map<|Value.int .i64).toArray:=by
 obtain⟨vs,rfl,h⟩:=h;have:∀{xs:bd}{vs:List Value},Z1 (Zc c) (xs.map λn=>X.int .i64 n) vs->vs=xs.map (Value.int .i64):=by
  intro xs
  induction xs with
  |nil=>intro vs h;exact(Z1.YN h)▸rfl
  |cons z f g=>
   intro vs h;obtain⟨v,b,rfl,e,i⟩:=h.YU;cases e;grind
 rw[this h]
def S.aneq{o:Nat}{us vs:List X}(xs ys:List Int)(m:dw E.P t n)(v:Gd q0 s jn rg)(hd:(Nat.blt d 1000&&Nat.blt d E.nt)=true)(i:YO s x (.agg us) r1)(g:YO s y (.agg vs) r2)(e:us=xs.map λn=>.int .i64 n)(b:vs=ys.map λn=>.int .i64 n)
  (C:R xs=n) (B:R ys=n):Zb E q0 ⟨some d,.binOp .neq t x y o,ty,v9,v4,jn⟩ s (rg++(r1++r2)) [(d,.bool<|decide<|xs≠ys)] []:=
 Zb.val v hd rfl (i.looks.app g.looks) λc A w _ j=>by
  subst e;subst b;have G:=Hi (i.rep (c:=c) (a:=A) (w:=w) λp f=>j p<|by simp[f]);have F:=Hi (g.rep (c:=c) (a:=A) (w:=w) λp f=>j p<|by simp[f]);refine⟨_,?_,ZR.WB<|.bool _⟩;have q:(eqGuard .neq t x y (.agg (xs.map<|Value.int .i64).toArray)<|.agg (ys.map<|Value.int .i64).toArray).run E.P w=.ok () w:=by simp[eqGuard,m.guard]
  simp only[execOp,G,F,Sem.run_bind,q,Result.andThen_ok,m.runN xs ys w C B];rfl
end
structure V7(h:Mem)(Y:Nat->Prop)(w:World)(h':Mem)(Y':Nat->Prop)(w':World):Prop where
 below:WV w.heap.size Y w w'
 le:Mem.le h h'
 new:∀p v,h' p=some v->h p=some v\/w.heap.size<=p.block\/Y p.block
 hw:∀p v,h' p=some v->w'.cell? p=some v
 lt:∀b,Y' b->b<w'.heap.size
 out:∀b,Y' b->b<w.heap.size->Y b
theorem Xn(b:c.h=h):Ext (ZL h) c:=⟨by grind [Mem.le_refl],(λ_ _ e=>by cases e),(λ_ _ _ _ e=>by cases e)⟩
def CallV(P:Program)(v:Value)(vj:Array Value)(w:World)(R:Ending->World->Prop):Prop:=
 (∃f first b,v=.func (.func f) first b/\(∀vj w,(callFunc f vj).run P w=.ok (.enter f vj) w)/\Calls P f (first++vj++b) w R)\/
 (∃l,v=.func (.yield l) #[] #[]/\YieldAt Fence.wide 0 P l vj w R)
def ND(P:Program)(v:Value)(ys:bi)(qp:X)(J0 J1:bm):Prop:=
 ∀(h:Mem)(Y:Nat->Prop)(w:World)(vs:List Value),(∀p v,h p=some v->w.cell? p=some v)->(∀b,Y b->b<w.heap.size)->J0 h Y w->Z1 (YQ<|ZL h) ys vs->
  CallV P v vs.toArray w λe w'=>∃u h' Y',e=.returned u/\V7 h Y w h' Y' w'/\J1 h' Y' w'/\YG (ZL h') qp u
variable{vy:Nat}
section
variable{w':World}{h':Mem}{Y':Nat->Prop}
theorem ZB.Ue(e:ZB E U c a w)(j:V7 c.h c.Y w h' Y' w'):ZB E U ⟨h',c.loc,c.arr,Y'⟩ a w':=by
 have hs:=j.below.size;have f:∀b o,b<w.heap.size->¬c.Y b->c.h ⟨b,o,none⟩=none->h' ⟨b,o,none⟩=none:=by
  intro b o n g N;cases hh:h' ⟨b,o,none⟩with
  |none=>rfl
  |some v=>
   rcases j.new _ _ hh with h|h|h
   all_goals grind
 have K:∀b,b<w.heap.size->(Ctx.mk h' c.loc c.arr Y').all b->c.all b:=by
  intro b n h;rcases h with h|h|h
  ·exact .inl<|j.out b h n
  ·exact .inr<|.inl h
  exact .inr<|.inr h
 have I:∀D o,¬c.all D->w.heap[D]?=some o->w'.heap[D]?=some o:=λD o A t=>(j.below.block D (sa.1 t).1 λg=>A<|.inl g).trans t
 refine⟨e.below.trans<|j.below.mono e.hB λk i g=>(e.Y k g).2.1 i,di e.hB hs,e.nt,⟨e.RR.1,λd L=>?_⟩,?_,j.hw,Mem.le_trans e.hle j.le,?_,?_,?_,e.used,?_,e.UU,e.Uw⟩
 ·obtain⟨D,A,t,F,G⟩:=e.RR.2 d L;grind
 ·intro p J;obtain⟨A,t,F⟩:=e.M6 p J;grind
 ·intro p v C;rcases j.new p v C with h|h|h
  ·exact e.hnew p v h
  ·exact .inr<|.inl<|di e.hB h
  rcases w7 p.block E.B with A|A
  ·exact .inr<|.inr<|(e.Y _ h).2.1 A
  omega
 ·intro k b i;obtain⟨A,t,F,G,M⟩:=e.loc k b i;exact⟨A,rp t hs,λo=>f b o t (λg=>(e.Y b g).2.2.1 k i)<|F o,G,M⟩
 ·intro k m C b i q;obtain⟨A,t,F,G⟩:=e.arr k m C b i q;exact⟨A,rp t hs,λo=>f b o t (λg=>(e.Y b g).2.2.2 k m C i q)<|F o,G⟩
 intro b g;refine⟨j.lt b g,λn=>(e.Y b<|j.out b g<|rp n e.hB).2.1 n,λk i=>?_,λk m C i q=>?_⟩
 ·have:=(e.loc k b i).2.1;exact(e.Y b<|j.out b g this).2.2.1 k i
 have:=(e.arr k m C b i q).2.1;exact(e.Y b<|j.out b g this).2.2.2 k m C i q
theorem Holds.Ue(v:ZB E U c a w)(q:V7 c.h c.Y w h' Y' w'){x:X}(G:¬vy<1000)(t:vy≠3000)(h:Holds c a w vy x):Holds ⟨h',c.loc,c.arr,Y'⟩ a w' vy x:=by
 have f:Ext c ⟨h',c.loc,c.arr,Y'⟩:=⟨q.le,λ_ _ e=>e,λ_ m p lv e=>⟨m,p,lv,e,Zq _,λ_=>rfl⟩⟩;unfold Holds at *;rw[Zm G]at h⊢;refine XH h λh=>?_
 split at h
 ·rename_i B;rw[Zn B];obtain⟨b,o,i,j,A⟩:=h;exact⟨b,o,i,(q.below.block b (v.loc _ _ i).2.1 λn=>(v.Y b n).2.2.1 _ i).trans j,A.mono f⟩
 rename_i B;rw[Zm B];split at h
 ·rename_i I;rw[Zn I];obtain⟨C,vi,p,e,vs,F,i,j,A⟩:=h;refine⟨C,vi,p,e,vs,F.mono f,i,⟨j.1,j.2.imp id ?_⟩,A⟩;rintro⟨g,vz,cur,f1,f2,f3,r⟩;exact⟨g,vz,cur,f1,f2,(q.below.block g (sa.1 f3).1 λn=>(v.Y g n).2.2.2 _ _ _ i<|by rw[f1];rfl).trans f3,r⟩
 exact absurd h.1 t
end
variable{jn:Option (Nat×Bool)}
theorem S.Lm{qp:X}{Φ:Value->Prop}{J0 J1:bm}(V:∀v,Φ v->ND E.P v ys qp J0 J1)(hJ1:Y2 J1)(hg:Gd q0 s jn rg)(hd:ca E d=true)
  (hx:YO s x (.cb Φ) r1) (ha:V5 s os ys r) (ho:ys.all V3=true) (hl:look s 3000=some (.res J0)):
  Zb E q0 ⟨some d,.call {callee:=.value x,args:=os.toArray,argTypes:=xo},ty,v9,v4,jn⟩ s (rg++(r1++(r++[(3000,.res J0)]))) [(d,qp),(3000,.res J1)] []:=by
 simp only[Zw,rb]at hd;refine⟨?_,hg.looks.app<|hx.looks.app<|ha.looks.app ⟨hl,Zo⟩⟩;intro U c a w O T _ next Q hn
 have hw:=hg.wanted (o:=⟨some d,.call {callee:=.value x,args:=os.toArray,argTypes:=xo},ty,v9,v4,jn⟩) λp j=>T p<|sb _ j;have W:Φ<|a.eval x:=hx.rep (c:=c) (a:=a) (w:=w) λp j=>T p (by simp[j])
 have hJ:AL c w 3000<|.res J0:=by
  have:=T (3000,.res J0) F;grind [Holds]
 obtain⟨_,J,e,_,hJ0⟩:=hJ;cases e;have C:=Yj (ha.rep (c:=c) (a:=a) (w:=w) λp j=>T p<|by simp[j]) ho;unfold T_;rw[Zn hw];refine⟨λ_ _=>trivial,?_⟩;rw[Oper.semAt_eq _ _ _ λcl he=>by cases he];have fin:∀u h' Y' w',V7 c.h c.Y w h' Y' w'->J1 h' Y' w'->YG (ZL h') qp u->next (a.put (some d) u) w':=by
  intro u h' Y' w' j hj K;have hdt:d<a.tmps.size:=by rw[O.nt];exact hd.2
  have t:Ext c ⟨h',c.loc,c.arr,Y'⟩:=⟨j.le,λ_ _ e=>e,λ_ m W lv e=>⟨m,W,lv,e,Zq _,λ_=>rfl⟩⟩;refine hn ⟨h',c.loc,c.arr,Y'⟩ _ w' ((O.Ue j).put _ _) t ?_ ?_
  ·intro p L;simp only[sf,H4,or_false]at L;rcases L with rfl|rfl
   ·unfold Holds;rw[Zn hd.1,XN hdt];exact K.mono<|Xn (c:=⟨h',c.loc,c.arr,Y'⟩) rfl
   unfold Holds;rw[Zm I,Zm I,Zm I];exact .inr ⟨rfl,J1,rfl,hJ1,hj⟩
  intro vy y hk B;have N:d≠vy:=hk (d,qp) F;have M:3000≠vy:=hk (3000,.res J1) F;by_cases G:vy<1000
  ·refine Holds.put ?_ N u;unfold Holds at B⊢;rw[Zn G]at B⊢;exact B.mono t
  exact(Holds.Ue O j G (λe=>M e.symm) B).put N u
 rcases V _ W c.h c.Y w _ O.hw (λb B=>(O.Y b B).1) hJ0 C with⟨f,first,A,e1,hcall,q⟩|⟨l,e1,fn,xv,assign,xt,B,i⟩
 ·have g:(execOp a.eval ⟨some d,.call {callee:=.value x,args:=os.toArray,argTypes:=xo},ty,v9,v4,jn⟩).run E.P w=.ok (.enter f<|first++(os.map a.eval).toArray++A) w:=by
   grind [execOp,resolve,Deferred.ofValue,invoke]
  rw[g];refine⟨Z,?_⟩;have G:CallsIn E.ac (0 - 1) E.P f (first++(os.map a.eval).toArray++A) w _:=(callsIn_wide (n:=0)).2 q;refine G.mono ?_;grind
 have g:(execOp a.eval ⟨some d,.call {callee:=.value x,args:=os.toArray,argTypes:=xo},ty,v9,v4,jn⟩).run E.P w=.ok (.round l fn xv assign xt) w:=by
  simp_all[execOp,resolve,Deferred.ofValue,invoke]
 rw[g];refine⟨Z,?_⟩;have G:RoundIn E.ac (0 - 1) E.P l fn xv assign xt w _:=i;refine G.mono ?_;grind
def ZZ{σ α:Type}(g:σ->α->σ×Bool):σ->List α->σ×Bool
 |s,[]=>(s,true)
 |s,x::l=>if(g s x).2=true then ZZ g (g s x).1 l else((g s x).1,false)
theorem QM{σ α:Type}(g:σ->α->σ×Bool):∀(l:List α)(s:σ)(x:α),ZZ g s (l++[x])=if(ZZ g s l).2=true then g (ZZ g s l).1 x else ZZ g s l
 |[],s,x=>by
  grind [ZZ]
 |y::l,s,x=>by
  simp only[H5,ZZ];split
  ·rename_i h;rw[QM g l]
  rfl
def k9(P:Program)(b:Nat)(vt:bi)(encs:α->bi)(l:List α):Prop:=
 ∀{σ:Type}(J:σ->bm)(g:σ->α->σ×Bool)(s0:σ)(Φ:Value->Prop),(∀s,Y2<|J s)->
  (∀v,Φ v->∀(i:Nat)(x:α),l[i]?=some x->(ZZ g s0<|l.take i).2=true->ND P v (encs x) (.bool (g (ZZ g s0<|l.take i).1 x).2) (J (ZZ g s0<|l.take i).1) (J (g (ZZ g s0<|l.take i).1 x).1))->
  Vi P b [] (.cb Φ::vt) [(3000,.res<|J s0)] [(3000,.res<|J (ZZ g s0 l).1)] (.Yy [])
def bp:Exit->Option (Option Code)
 |.normal=>some none
 |.ret=>some<|some .ret
 |.exit id=>some<|some<|.exit id
 |_=>none
variable{σ:Type}
def x7(b:σ->St)(p:σ×Option Code):bo:=λe _ s=>bp e=some p.2/\Le s (b p.1)
def Ko:bc->bi->St
 |p::ps,x::xs=>(p,x)::Ko ps xs
 |_,_=>[]
structure Rg where
 fn:FuncId
 tmps:Array Value
 ps:Array Tmp
 assign:Code
 body:Code
 D:Nat
def Rg.obj(r:Rg)(st:LoopState)(b:Option Code):Obj:=.loop {state:=st,pending:=b,fn:=r.fn,tmps:=r.tmps,params:=r.ps,assign:=r.assign,body:=r.body,defers:=r.D}
def cN(b:Option Code):LoopState:=if b.isNone then .ready else .done
def JR(E:Env)(u:bc)(a:Act)(B1:Nat)(aw:Nat->Prop)(l:Nat)(r:Rg)(st:St)(e:Option Code):bm:=λh Y ar=>
 ∃c,ZB E u c a ar/\Mem.le c.h h/\(∀p v,h p=some v->c.h p=some v\/(E.B<=p.block/\¬c.all p.block))/\(∀b,b<B1->¬aw b->Y b)/\(∀b,c.all b->Y b)/\ar.heap[l]?=some (r.obj (cN e) e)/\¬c.all l/\(ar.heap[r.D]?=some (.deferred<|some [])/\¬c.all r.D)/\
  ∀vy x,look st vy=some x->Holds c a ar vy x
theorem SQ{a':Act}{x:X}(o:∀b,c.all b->w'.heap[b]?=w.heap[b]?)(hw:∀p v,c.h p=some v->w'.cell? p=some v)(hB:WV 0 (λ_=>False) w w')(G:a'.tmps=a.tmps)(h:Holds c a w vy x):Holds c a' w' vy x:=by
 unfold Holds at *;rw[G];split at h
 ·simp_all
 rename_i f;rw[Zm f];refine XH h λh=>?_
 split at h
 ·grind [Ri,Ctx.all]
 rename_i K;rw[Zm K];split at h
 ·rename_i n;rw[Zn n];obtain⟨A,vi,F,e,vs,C,f,t,I⟩:=h;refine⟨A,vi,F,e,vs,C,f,⟨t.1,t.2.imp id ?_⟩,I⟩;rintro⟨g,vz,cur,f1,f2,f3,r⟩;exact⟨g,vz,cur,f1,f2,(o g<|.inr<|.inr ⟨_,_,_,f,by rw[f1];rfl⟩).trans f3,r⟩
 rename_i n;rw[Zm n];obtain⟨j,J,i,q,m⟩:=h;exact⟨j,J,i,q,q _ _ _ _ _ m (Mem.le_refl _) (λ_ _ e=>.inl e) hw hB λb B=>o b<|.inl B⟩
theorem ZB.keep{u:List Nat}(e:ZB E u c a w)(o:∀p∈E.pins,w'.heap[p.1]?=w.heap[p.1]?)(hB:WV 0 (λ_=>False) w w')(i:∀b,b<E.B→w'.heap[b]?=w.heap[b]?)(hw:∀p v,c.h p=some v→w'.cell? p=some v)
  (G:∀D,w.heap[D]?=some (.deferred<|some [])->{target:=.collected D,args:=#[]}∈a.defers->w'.heap[D]?=some (.deferred<|some [])):ZB E u c a w':=by
 refine⟨e.below.trans ⟨hB.os,hB.tape,hB.output,hB.size,λk j _=>i k j⟩,di e.hB hB.size,e.nt,⟨e.RR.1,λd F=>?_⟩,(λp C=>by obtain⟨g,f,n⟩:=e.M6 p C;grind),hw,e.hle,e.hnew,?_,?_,e.used,?_,e.UU,e.Uw⟩
 ·obtain⟨D,rfl,f,n,I⟩:=e.RR.2 d F;simp_all
 ·intro k b j;obtain⟨g,f,n⟩:=e.loc k b j;exact⟨g,rp f hB.size,n⟩
 ·intro k m A b j q;obtain⟨g,f,n⟩:=e.arr k m A b j q;exact⟨g,rp f hB.size,n⟩
 intro b t;obtain⟨g,f⟩:=e.Y b t;exact⟨rp g hB.size,f⟩
variable{u:bc}
theorem JR.ZV{B1 l:Nat}{aw:Nat->Prop}{r:Rg}{st:St}{N:Option Code}(g:∀p∈E.pins,p.1<B1/\¬aw p.1)(I:E.B<=B1)(V:∀b,aw b->E.B<=b)(L:l<B1/\¬aw l)(t:r.D<B1/\¬aw r.D)(j:∀D,({target:=.collected D,args:=#[]}:Deferred)∈a.defers->D<B1/\¬aw D):Y2<|JR E u a B1 aw l r st N:=by
 rintro h h' Y w w' ⟨c,T,xf,S,f,m,q,C,⟨G,F⟩,hh⟩ i K A hB o;have hw:∀p v,c.h p=some v->w'.cell? p=some v:=λp v e=>A p v<|i p v<|xf p v e
 refine⟨c,T.keep (λp J=>o _<|f _ (g p J).1 (g p J).2) hB (λb n=>o b (f b (rp n I) λX=>by grind)) hw λD W M=>(o D<|f D (j D M).1 (j D M).2).trans W,Mem.le_trans xf i,?_,f,m,(o l<|f l L.1 L.2).trans q,C,⟨(o _<|f _ t.1 t.2).trans G,F⟩,λvy x O=>SQ (λb n=>o b<|m b n) hw hB rfl<|hh vy x O⟩;grind
def rE(E:Env)(u:bc)(c0:Ctx)(w0:World)(l:Nat)(pins:List<|Nat×Obj):Env:=⟨E.P,E.nt,u,c0,w0,some l,pins⟩
def k7(l:Nat)(p:List<|Nat×Obj):Prop:=∃b:Loop,(l,Obj.loop b)∈p/\(b.defers,Obj.deferred<|some [])∈p
structure Og(E Er:Env)(l:Nat):Prop where
 M6:Er.round=some l/\k7 l Er.pins
 tab:TM E->TM Er
theorem Og.of(e:ZB E u c a w){l D:Nat}{f:Loop}(A:E.B<=l)(C:E.B<=D\/E.X D)(v:f.defers=D):
  Og E (rE E u ⟨h,c.loc,c.arr,c.Y⟩ w l [(l,.loop f),(D,.deferred<|some [])]) l:=by
 refine⟨⟨rfl,f,by simp[rE],by grind [rE]⟩,λj=>⟨j.now e,λn b g q=>?_⟩⟩;have i:g<E.B:=j.tab.lt n b g q;have t:=j.out n b g q;rintro((hy|⟨k,_,hk⟩|⟨k,m,hv,_,hk,hbk⟩)|⟨p,hp,he⟩)
 ·exact t<|(e.Y g hy).2.1 i
 ·rcases(e.loc k g hk).1 with o|o
  all_goals grind
 ·rcases(e.arr k m hv g hk hbk).1 with o|o
  all_goals grind
 grind [rE]
def HN:∀(ps:List<|Nat×Value)(t:Array Value),(ps.foldl (λt (p:Nat×Value)=>t.setIfInBounds p.1 p.2) t).size=t.size
 |[],t=>rfl
 |p::ps,t=>by rw[aτ,HN ps];simp
def PD(k:Nat):∀(ps:List<|Nat×Value)(t:Array Value),(∀p∈ps,p.1≠k)->(ps.foldl (λt (p:Nat×Value)=>t.setIfInBounds p.1 p.2) t).getD k undef=t.getD k undef
 |[],t,_=>rfl
 |p::ps,t,h=>by
  rw[aτ,PD k ps _ λq b=>h q<|rl _ b];simp_all
def FX:∀(ps:bc)(xs:bi){vy:Nat}{x:X},look (Ko ps xs) vy=some x->vy∈ps
 |[],_,_,_,h=>by cases h
 |_::_,[],_,_,h=>by cases h
 |p::ps,y::xs,vy,x,h=>by
  simp only[Ko,look]at h;split at h
  ·simp_all
  exact rl _<|FX ps xs h
theorem FY:∀(ps:bc)(xs:bi){vy:Nat},R ps=R xs->look (Ko ps xs) vy=none->vy∉ps
 |[],_,_,_,_=>by simp
 |_::_,[],_,h,_=>by simp at h
 |p::ps,y::xs,vy,hl,h=>by
  simp only[Ko,look]at h;split at h
  ·cases h
  rename_i f;have b:vy≠p:=λe=>f (by simp_all)
  simp only[sf,eη];exact⟨b,FY ps xs (by grind) h⟩
theorem BT{c:Ctx}:∀(ps:List Nat)(xs:List X)(vs:List Value)(t:Array Value),R ps=R xs→Z1 (YQ c) xs vs→ps.Pairwise (· ≠ ·)→(∀p∈ps,p<t.size)→xs.all (λx=>!X4 x)=true→
  ∀vy x,look (Ko ps xs) vy=some x->YG c x (((ps.zip vs).foldl (λt (p:Nat×Value)=>t.setIfInBounds p.1 p.2) t).getD vy undef)
 |[],[],_,_,_,_,_,_,_,_,_,h=>by cases h
 |p::ps,y::xs,vs,t,hl,hv,hp,ht,htup,vy,x,h=>by
  obtain⟨v,b,rfl,m,j⟩:=hv.YU;obtain⟨f,e⟩:=bβ.1 hp;simp only[so,Zw,zd]at htup;rw[List.zip_cons_cons,aτ];simp only[Ko,look]at h;split at h
  ·rename_i i;have:=Nat.eq_of_beq_eq_true i;subst this;cases h;rw[PD p _ _ λq g=>(f q.1 (List.of_mem_zip g).1).symm];simp_all[ap.WB]
  exact BT ps xs b _ (by grind) j e (λq g=>by simp_all) (by simp_all) vy x h
 |[],_::_,_,_,h,_,_,_,_,_,_,_=>by simp at h
 |_::_,[],_,_,h,_,_,_,_,_,_,_=>by simp at h
theorem HU{a':Act}{x:X}(xf:Mem.le c.h h)(j:∀p v,h p=some v->c.h p=some v\/¬c.Y p.block)(hw:∀p v,h p=some v->w.cell? p=some v)(L:¬vy<1000)(hh:Holds c a w vy x):
  Holds ⟨h,c.loc,c.arr,c.Y⟩ a' w vy x:=by
 have f:Ext c ⟨h,c.loc,c.arr,c.Y⟩:=⟨xf,λ_ _ e=>e,λ_ m i lv e=>⟨m,i,lv,e,Zq _,λ_=>rfl⟩⟩;unfold Holds at *;rw[Zm L]at hh⊢;refine XH hh λhh=>?_
 split at hh
 ·rename_i C;rw[Zn C];obtain⟨b,o,F,B,A⟩:=hh;exact⟨b,o,F,B,A.mono f⟩
 rename_i C;rw[Zm C];split at hh
 ·rename_i t;rw[Zn t];obtain⟨I,vi,i,e,vs,K,F,B,A⟩:=hh;exact⟨I,vi,i,e,vs,K.mono f,F,B,A⟩
 rename_i t;rw[Zm t];obtain⟨n,J,g,G,q⟩:=hh;exact⟨n,J,g,G,G _ _ _ _ _ q xf j hw (WV.refl _ _ _) λ_ _=>rfl⟩
section
variable{c0:Ctx}{w0:World}{l D:Nat}{o1 o2 o3:Obj}
theorem repin(W:Good (rE E u c0 w0 l [(l,o1),(D,o3)]) U s a w)(h1:o1.isCells=false)(h2:o2.isCells=false)(V:o1≠.deferred (some []))(hD:D≠l):Good (rE E u c0 w0 l [(l,o2),(D,o3)]) U s a<|w.putObj l o2:=by
 obtain⟨c,f,hh⟩:=W;obtain⟨N,p2,M⟩:=f.M6 (l,o1) (by simp[rE]);obtain⟨q1,q2,q3⟩:=f.M6 (D,o3) (by simp[rE]);have o:∀b,(rE E u c0 w0 l [(l,o1),(D,o3)]).X b->(rE E u c0 w0 l [(l,o2),(D,o3)]).X b:=by
  rintro b (h|⟨p,n,rfl⟩)
  ·exact .inl h
  refine .inr ?_;simp only[rE,sf,H4,or_false]at n;rcases n with rfl|rfl
  ·exact⟨(l,o2),by simp[rE],rfl⟩
  exact⟨(D,o3),by simp[rE],rfl⟩
 have K:∀k,k≠l->(w.putObj l o2).heap[k]?=w.heap[k]?:=λk j=>World.putObj_heap_other j
 have i:(w.putObj l o2).heap.size=w.heap.size:=F
 have g:∀p,(w.putObj l o2).cell? p=w.cell? p:=Sa M h1 h2;have T:∀k b,(rE E u c0 w0 l [(l,o1),(D,o3)]).ok k b->(rE E u c0 w0 l [(l,o2),(D,o3)]).ok k b:=λk b h=>h.imp id λh=>⟨h.1,o b h.2⟩
 refine⟨c,⟨(f.below.mono (Zq _) λk _ h=>o k h).trans ⟨rfl,rfl,rfl,I,λk _ C=>K k λe=>C<|.inr ⟨(l,o2),by simp[rE],e.symm⟩⟩,by rw[i];exact f.hB,f.nt,⟨f.RR.1,λd Z=>?_⟩,?_,λp v e=>by rw[g];exact f.hw p v e,f.hle,(λp v e=>(f.hnew p v e).imp id λq=>q.imp id<|o _),?_,?_,f.used,?_,f.UU,f.Uw⟩,λvy x C=>?_⟩
 ·obtain⟨D',A,t,L,f4⟩:=f.RR.2 d Z;grind [Env.B,rE]
 ·intro p n;simp only[rE,sf,H4,or_false]at n;rcases n with rfl|rfl
  all_goals grind [World.putObj_heap_same]
 ·intro k b j;rw[i];obtain⟨A,t⟩:=f.loc k b j;grind
 ·intro k m S b j G;rw[i];obtain⟨A,t⟩:=f.arr k m S b j G;grind
 ·intro b O;rw[i];obtain⟨A,t,L⟩:=f.Y b O;exact⟨A,λh=>o b<|t h,L⟩
 exact SQ (λb J=>K b λe=>N<|e▸J) (λp v e=>by rw[g];exact f.hw p v e) ⟨rfl,rfl,rfl,I,λk j=>I⟩ rfl<|hh vy x C
end
theorem u6{p:Addr}(h:w.cell? p=some v):p=⟨p.block,p.off,none⟩:=by
 have b:p.spot=none:=by
  cases b:p.spot with
  |none=>rfl
  |some q=>grind [World.cell?]
 cases p;simp_all
def CL(f:ZB E u c a w)(h:c.loc k=some b):k∈u:=
 aν λe=>by rw[(f.used k e).1]at h;cases h
def Gp(e:ZB E u c a w){q:Nat×Value×Bool}(h:c.arr k=some q):k∈u:=
 aν λb=>by rw[(e.used k b).2]at h;cases h
def I4(bx:St)(p:Nat×X):Bool:=Nat.blt p.1 1000&&(oZ [] p.2||match p.2 with
 |.ptr k _=>Nat.blt k 1000&&(match look bx (1000+k)with|some (.box _)=>true|_=>false)
 |_=>false)
def Le.mem(h:Le s r){x:X}(b:Ab.look r k=some x):Ab.look s k=some x:=Le.look h k x b
variable{ar:World}{B1:Nat}{aw Y:Nat->Prop}
section
variable{U3:bc}{a3:Act}{w3:World}{l:Nat}
theorem uU(hpins:∀p∈E.pins,p.1≠l)(r:Rg){slots bx N s3:St}{j:Option Code}{c3:Ctx}(o:ZB E u c a ar)(hEl:E.B<=l)(hD:ar.heap[r.D]?=some (.deferred<|some []))(hDl:r.D≠l)
  (xf:Mem.le c.h h) (hnw:∀p v,h p=some v->c.h p=some v\/(E.B<=p.block/\¬c.all p.block)) (hlow:∀b,b<B1->¬aw b->Y b) (hall:∀b,c.all b->Y b) (hYlt:∀b,Y b->b<ar.heap.size) (hlW:ar.heap[l]?=some (r.obj .ready none)) (hnl:¬c.all l)
  (hwW:∀p v,h p=some v->ar.cell? p=some v)
  (g:ZB (rE E u ⟨h,c.loc,c.arr,c.Y⟩ ar l [(l,r.obj .busy none),(r.D,.deferred<|some [])]) U3 c3 a3 w3) (hh3:∀vy x,look s3 vy=some x->Holds c3 a3 w3 vy x) (hl3:Le s3 N) (hhi:N.all (SN u)=true)
  (hslots:slots.all (I4 N)=true) (hhs:∀vy x,look (slots++bx) vy=some x->Holds c a ar vy x) (hlY:Y l):
  ∃h' Y',V7 h Y ar h' Y' (w3.putObj l<|r.obj (cN j) j)/\JR E u a B1 aw l r (slots++N) j h' Y' (w3.putObj l<|r.obj (cN j) j):=by
 obtain⟨V,G⟩:∃V,V=rE E u ⟨h,c.loc,c.arr,c.Y⟩ ar l [(l,r.obj .busy none),(r.D,.deferred<|some [])]:=⟨_,rfl⟩;rw[←G]at g;have eB:V.B=ar.heap.size:=by rw[G];rfl
 have efs:V.fs=u:=by rw[G];rfl
 have ec0:V.c0=⟨h,c.loc,c.arr,c.Y⟩:=by rw[G];rfl
 have ew0:V.w0=ar:=by rw[G];rfl
 have eh0:V.h0=h:=by rw[G];rfl
 obtain⟨p1,p2,p3⟩:=g.M6 (l,r.obj .busy none) (by grind [rE]);obtain⟨q1,q2,q3⟩:=g.M6 (r.D,.deferred<|some []) (by grind [rE]);simp only at p1 p3 q1 q3;have hXof:∀b,V.X b->(V.c0.out u b)\/b=l\/b=r.D:=by
  rintro b (h|⟨p,O,rfl⟩)
  ·simp_all
  rw[G]at O;simp only[rE,sf,H4,or_false]at O;grind
 have hc0all:∀b,V.c0.out u b->c.all b:=by
  rw[ec0];rintro b (K|⟨k,_,f⟩|⟨k,m,A,_,f⟩)
  ·exact .inl K
  ·exact .inr<|.inl ⟨k,f⟩
  exact .inr<|.inr ⟨k,m,A,f⟩
 obtain⟨h',hh'⟩:∃h',h'=V.fin c3 w3:=⟨_,rfl⟩;obtain⟨L,F⟩:∃L,L=c3.TH u h':=⟨_,rfl⟩;obtain⟨g1,g2,g3⟩:=g.TH;rw[efs,←hh',←F]at g1;rw[eh0,←hh']at g2;rw[←hh',eh0,eB]at g3;have c4h:L.h=h':=by rw[F];rfl
 have c4Y:L.Y=c3.Y:=by rw[F];rfl
 have sub:∀b,L.all b->c3.all b:=by
  rw[F];rintro b (K|⟨k,f⟩|⟨k,m,A,f,i⟩)
  ·exact .inl K
  ·exact .inr<|.inl ⟨k,(VH f).2⟩
  exact .inr<|.inr ⟨k,m,A,(Wa f).2,i⟩
 have c4out:∀b,L.all b->L.out u b:=by
  rintro b (K|⟨k,f⟩|⟨k,m,A,f,i⟩)
  ·exact .inl K
  ·exact .inr<|.inl ⟨k,(g1.loc k b f).1,f⟩
  exact .inr<|.inr ⟨k,m,A,(g1.arr k m A b f i).1,f,i⟩
 have old:∀b,b<ar.heap.size->L.all b->c.all b:=by
  intro b M h4;have hX:V.X b:=by
   have:=g.eS (b:=b) (by grind [JU]) I;exact this
  grind
 have lt4:∀b,L.all b->b<w3.heap.size:=λb h4=>g.bX (b:=b) (by grind [JU])
 have hs3:ar.heap.size<=w3.heap.size:=by have:=g.below.size;simp_all
 obtain⟨J,C⟩:∃J,J=w3.putObj l (r.obj (cN j) j):=⟨_,rfl⟩;rw[←C];have hsz:J.heap.size=w3.heap.size:=by rw[C];simp
 have Z:∀k,k≠l->J.heap[k]?=w3.heap[k]?:=λk f=>by simp_all[World.putObj_heap_other]
 have hcell:∀p,J.cell? p=w3.cell? p:=λp=>by rw[C];exact Sa p3 rfl rfl p
 have hrec4:J.heap[l]?=some (r.obj (cN j) j):=by grind [World.putObj_heap_same]
 have e3:J.os=ar.os/\J.tape=ar.tape/\J.output=ar.output:=by
  have:=g.below;rw[ew0]at this;rw[C];exact⟨this.os,this.tape,this.output⟩
 have same:∀k,k<ar.heap.size->¬c.all k->k≠l->J.heap[k]?=ar.heap[k]?:=by
  intro k f hn hkl;rw[Z k hkl];by_cases hkD:k=r.D
  ·simp_all
  have:=g.below.block k I (λhX=>by
   grind)
  simp_all
 have W:∀p v,h' p=some v->J.cell? p=some v:=λp v O=>by rw[hcell];have:=g1.hw p v;simp_all
 have noD:∀p v,h' p=some v->p.block≠r.D:=by
  grind [World.cell?]
 have hlowE:∀k,k<E.B->¬E.X k->J.heap[k]?=ar.heap[k]?:=by
  intro k f hX;refine same k (rp f o.hB) ?_ I;rintro(K|⟨n,hn⟩|⟨n,m,A,hn,hbn⟩)
  ·exact hX<|(o.Y k K).2.1 f
  ·exact Env.QT (o.loc n k hn).1 f hX rfl
  exact Env.QT (o.arr n m A k hn hbn).1 f hX rfl
 have base4:ZB E u L a J:=by
  refine⟨o.below.trans ⟨e3.1,e3.2.1,e3.2.2,I,hlowE⟩,by grind,o.nt,⟨o.RR.1,λd hd=>?_⟩,(λp O=>by
   obtain⟨f1,f2,f3⟩:=o.M6 p O;grind),λp v O=>W p v<|by simp_all,?_,?_,?_,?_,g1.none,?_,?_,?_⟩
  ·obtain⟨D',f1,f2,f3,f4⟩:=o.RR.2 d hd;have M:=(sa.1 f4).1;refine⟨D',f1,f2,λh4=>f3<|old D' M h4,(same D' M f3 ?_).trans f4⟩;rintro rfl;rw[hlW]at f4;cases f4
  ·rw[c4h];exact Mem.le_trans o.hle<|Mem.le_trans xf g2
  ·intro p v O;rw[c4h]at O;rcases g3 p v O with h1|h1|h1
   ·rcases hnw p v h1 with h5|⟨h5,_⟩
    ·exact o.hnew p v h5
    omega
   ·grind
   rcases w7 p.block E.B with hlo|hlo
   ·rcases hXof _ h1 with hca|e|e
    ·rcases hc0all _ hca with K|⟨k,f⟩|⟨k,m,A,f,i⟩
     ·exact .inr<|.inr<|(o.Y _ K).2.1 hlo
     ·refine .inr<|.inr<|dπ λhx=>?_;exact Env.QT (o.loc k _ f).1 hlo hx rfl
     refine .inr<|.inr<|dπ λhx=>?_;exact Env.QT (o.arr k m A _ f i).1 hlo hx rfl
    all_goals grind
   omega
  ·intro k b f;obtain⟨f1,f2,f3,f4,f5⟩:=g1.loc k b f;have S:=g.UU k b (by grind) (by grind [VH]);rw[ec0]at S;exact⟨(o.loc k b S).1,I,f3,f4,f5⟩
  ·intro k m A b f i;obtain⟨f1,f2,f3,f4⟩:=g1.arr k m A b f i;obtain⟨m0,hv0,lv0,k1,k2,k3,k4,k5⟩:=g.Uw k m A true (by grind) (by grind [Wa]);rw[ec0]at k1;have:=k4 rfl;subst this;refine⟨?_,I,f3,f4⟩;rcases k5 b i with h|h
   ·exact(o.arr k m0 hv0 b k1 h).1
   exact .inl (by grind)
  ·intro b K;obtain⟨f1,f2,f3⟩:=g1.Y b K;refine⟨I,λM=>?_,f2,f3⟩;rcases old b (rp M o.hB) (.inl K)with hy2|⟨k,f⟩|⟨k,m,A,f,i⟩
   ·exact(o.Y b hy2).2.1 M
   ·exact((o.loc k b f).1.resolve_left I).2
   exact((o.arr k m A b f i).1.resolve_left I).2
  ·intro k b f hkb;have S:=g.UU k b (by rw[efs];exact(g1.loc k b hkb).1) (by rw[F]at hkb;exact(VH hkb).2);rw[ec0]at S;exact o.UU k b f S
  intro k m A lv f hka;rw[F]at hka;obtain⟨f1,f2⟩:=Wa hka;obtain⟨m0,hv0,lv0,k1,k2,k3,k4,k5⟩:=g.Uw k m A lv (by simp_all) f2;rw[ec0]at k1;obtain⟨m1,hv1,lv1,n1,n2,n3,n4,n5⟩:=o.Uw k m0 hv0 lv0 f k1;grind
 refine⟨h',λb=>Y b\/L.all b,⟨⟨e3.1,e3.2.1,e3.2.2,I,λk f hn=>same k f (λh=>hn<|hall k h) λe=>hn<|e▸hlY⟩,g2,?_,W,?_,?_⟩,L,base4,by grind [Mem.le_refl],λp v O=>.inl<|by simp_all,λb hb' hz=>.inl<|hlow b hb' hz,λb h4=>.inr h4,hrec4,λh4=>p1<|sub l h4,⟨(Z r.D hDl).trans q3,λh4=>q1<|sub _ h4⟩,?_⟩
 ·grind
 ·grind
 ·grind
 have bxh:∀vy x,look N vy=some x->Holds L a J vy x:=by
  intro vy x hx;have S:=hh3 vy x<|hl3.mem hx;have h8:Holds (c3.TH u h') a w3 vy x:=by
   refine Holds.TH (fs:=u) (w:=w3) (by grind [Env.Lv]) ?_ (λp v O=>by simp_all) (WV.refl _ _ _) (λ_ _=>rfl) S<|bj.1 hhi (vy,x)<|XO hx;intro q v hq;rw[hh']at hq;unfold Env.fin at hq;split at hq
   ·grind
   rename_i hc;exact .inr λK=>hc<|.inr<|.inl K
  rw[←F]at h8;exact SQ (λb hb'=>Z b λe=>p1<|sub l<|e▸hb') (λp v O=>W p v<|by simp_all) ⟨by rw[C];rfl,by rw[C];rfl,by rw[C];rfl,I,λk f=>I⟩ rfl h8
 intro vy x hx;rw[Wz]at hx;cases f:look slots vy with
 |none=>simp_all
 |some y=>
  rw[f]at hx;have hxy:y=x:=by grind
  subst hxy;clear hx;have hs:=bj.1 hslots (vy,y)<|XO f;simp only[I4,Zw,rb]at hs;have S:=hhs vy y (by rw[Wz,f];rfl);unfold Holds at S⊢;rw[Zn hs.1]at S⊢;have t:=hs.2;rw[ti]at t;rcases t with t|t
  ·exact(S.cut t).mono ⟨by show Mem.le c.h L.h;grind [Mem.le_trans],(λk b e=>by simp[Ctx.cut]at e),(λk m A lv e=>by simp[Ctx.cut]at e)⟩
  cases y<;>first|cases t|skip
  rename_i k qc;simp only[Zw,rb]at t;obtain⟨b,e1,e2⟩:=S;refine⟨b,?_,e2⟩;have hs3':=t.2;cases hlk:look N (1000+k)with
  |none=>simp_all
  |some z=>
   rw[hlk]at hs3';cases z<;>first|cases hs3'|skip
   obtain⟨b',T,vs,f1,f2,f3⟩:=VT (bxh _ _ hlk) t.1;have h9:c3.loc k=some b'/\k∈u:=by grind [VH]
   have h8:=g.UU k b' (by simp_all) h9.1;simp_all
end
section
variable{l:Nat}{σ:Type}
theorem qH(W:∀p∈E.pins,p.1≠l)(r:Rg){slots:St}{f:σ->St}{s0 s1:σ}{j:Option Code}{ps:bc}{vs:List Value}(hEl:E.B<=l)(hl1:l<B1/\¬aw l)(hDX:E.B<=r.D\/E.X r.D)
  (hDl:r.D≠l) (htm:r.tmps=a.tmps) (hps:r.ps=ps.toArray) (hpl:R ps=R xs) (hpw:ps.Pairwise (· ≠ ·)) (hpt:∀p∈ps,p<E.nt) (hp1:∀p∈ps,p<1000) (htup:xs.all (λx=>!X4 x)=true)
  (hYlt:∀b,Y b->b<ar.heap.size) (M:∀p v,h p=some v->ar.cell? p=some v) (hJ:JR E u a B1 aw l r (slots++f s0) none h Y ar) (G:Z1 (YQ<|ZL h) xs vs)
  (hhi:(f s1).all (SN u)=true) (I:slots.all (I4<|f s1)=true)
  (L:∀(c0:Ctx)(w0:World)(p1 p2:List<|Nat×Obj),Og E (rE E u c0 w0 l p1) l->Og E (rE E u c0 w0 l p2) l->OK (rE E u c0 w0 l p1) r.assign (λe U s'=>e=.normal/\OK (rE E u c0 w0 l p2) r.body (den (rE E u c0 w0 l p2) (x7 f (s1,j)) []) U s') u (Ko ps xs++(slots++f s0))):
  YieldAt Fence.wide 0 E.P l vs.toArray ar λe W'=>∃v h' Y',e=.returned v/\V7 h Y ar h' Y' W'/\JR E u a B1 aw l r (slots++f s1) j h' Y' W'/\YG (ZL h') (.bool j.isNone) v:=by
 obtain⟨c,F,xf,hnw,J,hall,A,hnl,⟨d4,d3⟩,hh⟩:=hJ;have hvl:=G.length;have V:ar.heap[l]?=some (.loop {state:=.ready,pending:=none,fn:=r.fn,tmps:=r.tmps,params:=r.ps,assign:=r.assign,body:=r.body,defers:=r.D}):=A;refine⟨r.fn,_,r.assign,r.body,run_yield V<|by simp_all,roundIn_of_wpIn trivial ?_⟩;have Z:(r.ps.zip vs.toArray).foldl (λxv (x:Nat×Value)=>match x with|(t,a)=>xv.setIfInBounds t a) r.tmps=(ps.zip vs).foldl (λt (p:Nat×Value)=>t.setIfInBounds p.1 p.2) a.tmps:=by
  simp_all
 rw[Z];obtain⟨K,O⟩:∃K,K=(ps.zip vs).foldl (λt (p:Nat×Value)=>t.setIfInBounds p.1 p.2) a.tmps:=⟨_,rfl⟩;rw[←O];have hsz:K.size=a.tmps.size:=by simp_all[HN]
 have hlW:=(sa.1 A).1;have g:∀b,c.all b->∀o,c.h ⟨b,o,none⟩=none->h ⟨b,o,none⟩=none:=by
  intro b hb2 o hn;cases hq:h ⟨b,o,none⟩<;>grind
 have good:Good (rE E u ⟨h,c.loc,c.arr,c.Y⟩ ar l [(l,r.obj .ready none),(r.D,.deferred<|some [])]) u (Ko ps xs++(slots++f s0)) {tmps:=K,defers:=[]} ar:=by
  refine⟨⟨h,c.loc,c.arr,c.Y⟩,⟨WV.refl _ _ _,Zq _,by show K.size=E.nt;rw[hsz,F.nt],⟨.nil,λd hd=>by cases hd⟩,?_,M,Mem.le_refl _,λp v e=>.inl e,?_,?_,F.used,?_,λk b _ e=>e,λk m N lv _ e=>⟨m,N,lv,e,Zq _,λ_=>rfl,id,λ_ h=>.inl h⟩⟩,?_⟩
  ·intro p hp;simp only[rE,sf,H4,or_false]at hp;rcases hp with rfl|rfl
   ·exact⟨hnl,rfl,A⟩
   exact⟨d3,rfl,d4⟩
  ·intro k b i;obtain⟨f1,f2,f3,f4⟩:=F.loc k b i;exact⟨.inr ⟨CL F i,.inl<|.inr<|.inl ⟨k,CL F i,i⟩⟩,f2,λo=>g b (.inr<|.inl ⟨k,i⟩) o<|f3 o,f4⟩
  ·intro k m N b i hbk;obtain⟨f1,f2,f3,f4⟩:=F.arr k m N b i hbk;exact⟨.inr ⟨Gp F i,.inl<|.inr<|.inr ⟨k,m,N,Gp F i,i,hbk⟩⟩,f2,λo=>g b (.inr<|.inr ⟨k,m,N,i,hbk⟩) o<|f3 o,f4⟩
  ·intro b hy;obtain⟨f1,f2,f3⟩:=F.Y b hy;exact⟨f1,λ_=>.inl<|.inl hy,f3⟩
  intro vy x hx;rw[Wz]at hx;cases i:look (Ko ps xs) vy with
  |some y=>
   rw[i]at hx;have hxy:y=x:=by grind
   subst hxy;have hkp:=FX ps xs i;unfold Holds;rw[Zn<|hp1 vy hkp];simp only[O];exact(BT ps xs vs a.tmps hpl G hpw (λp hp=>by rw[F.nt];grind) htup vy y i).mono<|Xn (c:=⟨h,c.loc,c.arr,c.Y⟩) rfl
  |none=>
   rw[i]at hx;have h0:=hh vy x hx;by_cases hlt:vy<1000
   ·unfold Holds at h0⊢;rw[Zn hlt]at h0⊢;have hg:K.getD vy undef=a.tmps.getD vy undef:=by
     rw[O];exact PD vy _ _ λq hq e=>FY ps xs hpl i<|e▸(List.of_mem_zip hq).1
    show YG _ x (K.getD vy undef);rw[hg];exact h0.mono (show Ext c ⟨h,c.loc,c.arr,c.Y⟩from⟨xf,λ_ _ e=>e,λ_ m N lv e=>⟨m,N,lv,e,Zq _,λ_=>rfl⟩⟩)
   exact HU xf (λp v e=>(hnw p v e).imp id λh hy=>h.2<|.inl hy) M hlt h0
 have hF:∀p,(rE E u ⟨h,c.loc,c.arr,c.Y⟩ ar l p).ac=Fence.wide.inRound l:=λ_=>rfl
 have n:=L ⟨h,c.loc,c.arr,c.Y⟩ ar [(l,r.obj .ready none),(r.D,.deferred<|some [])] [(l,r.obj .busy none),(r.D,.deferred<|some [])] (Og.of F hEl hDX rfl) (Og.of F hEl hDX rfl) _ _ good;rw[hF]at n;refine wpIn_mono n ?_;rintro e a1 w1 ⟨U',s',hg1,rfl,hbody⟩;have T:w1.heap[l]?=some (r.obj .ready none):=by
  obtain⟨c',hb',_⟩:=hg1;exact(hb'.M6 (l,r.obj .ready none)<|by simp[rE]).2.2
 have hg2:=repin (o2:=r.obj .busy none) hg1 rfl rfl (by intro e;cases e) hDl;refine⟨_,run_beginRound (r:={state:=.ready,pending:=none,fn:=r.fn,tmps:=r.tmps,params:=r.ps,assign:=r.assign,body:=r.body,defers:=r.D}) T rfl,?_⟩;have C:=hbody a1 _ hg2;rw[hF]at C;refine wpIn_mono C ?_;rintro e3 a3 w3 ⟨U3,s3,⟨c3,hb3,hh3⟩,hj,hl3⟩;have S:w3.heap[l]?=some (.loop {state:=.busy,pending:=none,fn:=r.fn,tmps:=r.tmps,params:=r.ps,assign:=r.assign,body:=r.body,defers:=r.D}):=(hb3.M6 (l,r.obj .busy none)<|by simp[rE]).2.2;obtain⟨h',Y',f1,f2⟩:=uU W r (slots:=slots) (bx:=f s0) (j:=j) F hEl d4 hDl xf hnw J hall hYlt A hnl M hb3 hh3 hl3 hhi I hh<|J l hl1.1 hl1.2;have hend:=run_endRound (P:=E.P) j S;have fin:∃v w',(Instr.endRound l j).run E.P w3=.ok v w'/\∃v' h' Y',Ending.returned v=.returned v'/\V7 h Y ar h' Y' w'/\JR E u a B1 aw l r (slots++f s1) j h' Y' w'/\YG (ZL h') (.bool j.isNone) v':=
  ⟨_,_,hend,.bool j.isNone,h',Y',rfl,f1,f2,ZR.bool _⟩
 cases e3 with
 |normal=>cases hj;exact fin
 |ret=>cases hj;exact fin
 |exit id=>cases hj;exact fin
 |goto t=>cases hj
 |panic ch=>cases hj
 |outgrown=>cases hj
end
section
variable{Q:bo}{k:List Kn}
def stepG(xn:σ->α->σ×Option Code)(p:σ×Option Code)(x:α):(σ×Option Code)×Bool:=(xn p.1 x,(xn p.1 x).2.isNone)
theorem LB{σ α:Type}(xn:σ->α->σ×Option Code)(b:σ):∀(l:List α)(p:σ×Option Code),p.2=none->((ZZ (stepG xn) p l).2=true↔(ZZ (stepG xn) p l).1.2=none)
 |[],p,h=>by simp[ZZ,h]
 |x::l,p,h=>by
  simp only[ZZ];split
  ·rename_i e;exact LB xn b l _ (by simpa[stepG]using e)
  grind [stepG]
def Hx(kb:List<|Nat×bi):St:=kb.map λp=>(1000+p.1,.box p.2)
def Dd(P:Program)(b:Nat)(kb:List<|Nat×bi)(vt:bi)(encs:α->bi)(l:List α):Prop:=
 ∀{σ:Type}(J:σ->bm)(g:σ->α->σ×Bool)(s0:σ)(Φ:Value->Prop),(∀s,Y2<|J s)->
  (∀v,Φ v->∀(i:Nat)(x:α),l[i]?=some x->(ZZ g s0<|l.take i).2=true->ND P v (encs x) (.bool (g (ZZ g s0<|l.take i).1 x).2) (J (ZZ g s0<|l.take i).1) (J (g (ZZ g s0<|l.take i).1 x).1))->
  Vi P b (kb.map (·.1)) (.cb Φ::vt) ((3000,.res<|J s0)::Hx kb) [(3000,.res<|J (ZZ g s0 l).1)] (.Yy [])
def Em(kb:List<|Nat×bi):X->Bool
 |.ptr k _=>(kb.map (·.1)).contains k
 |x=>Np [] x&&!Yx x
theorem OK.QW{go:Operand}{ps:bc}{assign xt:Code}{gf:Nat}{encs:α->bi}{L:List α}(u:bc)(slots:St)(f:σ->St)(K:σ)(xn:σ->α->σ×Option Code)
  (kb:List<|Nat×bi) (hseq:Dd E.P gf kb vt encs L) (hkb:Yw s<|Hx kb) (hkd:kb.all (λp=>p.2.all BI&&Nat.blt p.1 1000&&!u.contains p.1&&!E.fs.contains p.1)=true) (hcall:∀vj w,(callFunc gf vj).run E.P w=.ok (.enter gf vj) w) (hro:E.round=none\/∃l0,E.round=some l0/\k7 l0 E.pins) (hg:YO s go (.fn gf vt) r) (hc1:vt.all (Em kb)=true)
  (xf:Le s<|slots++f K) (ho:∀q,(slots++f q).all (VB u)=true) (hhi:∀q,(f q).all (SN u)=true) (hslots:∀q,slots.all (I4<|f q)=true)
  (hpl:∀x,R (encs x)=R ps) (htup:∀x,(encs x).all (λx=>!X4 x)=true) (hpw:ps.Pairwise (· ≠ ·)) (hpt:ps.all (λp=>Nat.blt p E.nt&&Nat.blt p 1000)=true)
  (hround:∀(i:Nat)(x:α)(q:σ),L[i]?=some x->ZZ (stepG xn) (K,none) (L.take i)=((q,none),true)->∀(l:Nat)(c0:Ctx)(w0:World)(p1 p2:List<|Nat×Obj),Og E (rE E u c0 w0 l p1) l->Og E (rE E u c0 w0 l p2) l->
   OK (rE E u c0 w0 l p1) assign (λe U s'=>e=.normal/\OK (rE E u c0 w0 l p2) xt (den (rE E u c0 w0 l p2) (x7 f<|xn q x) []) U s') u (Ko ps (encs x)++(slots++f q)))
  (hend:∀q,ZZ (stepG xn) (K,none) L=((q,none),true)->den E Q k .normal u (slots++f q))
  (hjump:∀q cd,(ZZ (stepG xn) (K,none) L).1=(q,some cd)->OK E cd (den E Q k) u (slots++f q)):OK E (.rangeFunc go ps.toArray assign xt) (den E Q k) U s:=by
 intro a w hg0;obtain⟨c,hb,hh⟩:=hg0;obtain⟨cvs,hev,hcv0⟩:=hg.rep (c:=c) (a:=a) (w:=w) λp G=>hh _ _<|hg.looks.all p G
 obtain⟨lo,hlo⟩:∃lo:Nat->Option Nat,lo=λk=>if(kb.map (·.1)).contains k then c.loc k else none:=⟨_,rfl⟩
 obtain⟨aw,hZ⟩:∃aw:Nat->Prop,aw=λb=>∃k,lo k=some b:=⟨_,rfl⟩
 have hloc:∀k b,lo k=some b->(kb.map (·.1)).contains k=true/\c.loc k=some b:=by
  simp_all
 have hkk:∀k,(kb.map (·.1)).contains k=true->¬k∈u/\¬k∈E.fs:=by
  grind
 have hZf:∀b,aw b->E.B<=b/\b<w.heap.size/\(∀o,c.h ⟨b,o,none⟩=none)/\¬(c.cut u).all b/\(∀p∈E.pins,p.1≠b)/\∀D,({target:=.collected D,args:=#[]}:Deferred)∈a.defers->D≠b:=by
  intro b hz;rw[hZ]at hz;obtain⟨k,hk⟩:=hz;obtain⟨O,h2⟩:=hloc k b hk;obtain⟨q1,q2,q3,q4,q5⟩:=hb.loc k b h2;have hca:c.all b:=.inr<|.inl ⟨k,h2⟩;refine⟨Env.SX q1 (hkk k O).2,q2,q3,?_,λp G e=>(hb.M6 p G).1<|e▸hca,λD hD e=>?_⟩
  ·rintro(hy|⟨j,hj⟩|⟨j,m,hv,hj,hjb⟩)
   ·exact(hb.Y b hy).2.2.1 k h2
   all_goals grind [Ctx.cut]
  obtain⟨D',f1,f2,f3,f4⟩:=hb.RR.2 _ hD;grind
 have hcv:Z1 (YQ ⟨c.h,lo,λ_=>none,λ_=>False⟩) vt cvs:=by
  have:∀{us:bi}{vs:List Value},Z1 (Xw c) us vs->us.all (Em kb)=true->Z1 (YQ ⟨c.h,lo,λ_=>none,λ_=>False⟩) us vs:=by
   intro us
   induction us with
   |nil=>intro vs h _;exact(Z1.YN h)▸trivial
   |cons u us ih=>
    intro vs h O;obtain⟨v,vs',rfl,hv,hvs⟩:=h.YU;simp only[so,Zw]at O;refine⟨?_,ih hvs O.2⟩;have h3:=O.1;cases u with
    |ptr k qc=>
     obtain⟨b,e1,e2⟩:=hv;have hk:(kb.map (·.1)).contains k=true:=h3;exact⟨b,by grind,e2⟩
    |_=>
     simp only[Em,Zw,zd]at h3;have G:=(hv.cut h3.1).mono (show Ext (c.cut []) ⟨c.h,lo,λ_=>none,λ_=>False⟩from⟨Mem.le_refl _,(λk b e=>by simp[Ctx.cut]at e),(λk m hv lv e=>by simp[Ctx.cut]at e)⟩);have hn:=h3.2
     first|exact G|cases hn
  grind
 clear hcv0;have hbx:∀p∈kb,Ri ⟨c.h,lo,λ_=>none,λ_=>False⟩ w p.1 (.box p.2):=by
  intro p G;have O:=hkb.all (1000+p.1,.box p.2)<|rx.2 ⟨p,G,rfl⟩;have h2:=bj.1 hkd p G;simp only[Zw,rb]at h2;obtain⟨b',T,vs,f1,f2,f3⟩:=VT (hh _ _ O) h2.1.1.2;refine⟨b',_,?_,f2,T,vs,rfl,?_⟩
  ·grind
  exact(Od f3 h2.1.1.1).mono λ_ _ h=>ZR.Av (c:=⟨c.h,lo,λ_=>none,λ_=>False⟩) h
 have A:=hb.cut u;have hh5:∀vy x,look (slots++f K) vy=some x->Holds (c.cut u) a w vy x:=λvy x hx=>Holds.cut (hh vy x<|xf.mem hx)<|bj.1 (ho K) _<|XO hx
 have hch:(c.cut u).h=c.h:=rfl;have hlu:∀k b,lo k=some b->(∀k',lo k'=some b->k'=k)/\(kb.map (·.1)).contains k=true:=λk b e=>by
  obtain⟨O,h2⟩:=hloc k b e;exact⟨λk' e'=>(hb.loc k b h2).2.2.2.1 k' (hloc k' b e').2,O⟩
 have hln:∀k,¬k∈kb.map (·.1)->lo k=none:=λk hk=>by grind
 generalize c.cut u=c5 at A hh5 hch hZf;rw[←hch]at hcv hbx hZf;clear hb hh xf hg hch;refine wpIn_rangeFunc λfn hfn=>?_
 have hall6:∀b,c5.all b->b<w.heap.size:=by
  rintro b (h|⟨k,h⟩|⟨k,m,hv,h,h2⟩)
  ·exact(A.Y b h).1
  ·exact(A.loc k b h).2.1
  exact(A.arr k m hv b h h2).2.1
 have hEB:E.B<=w.heap.size:=A.hB
 obtain⟨r,l,ds,g,a1,hrun,hrt,hrp,hra,hrb,hrf,ha1,hEl,hlW,hrD,hDl,hDZ,hDX,hL1,hK1,hnD,C,M,hb7,hdef⟩:∃(r:Rg)(l:Nat)(ds:List Deferred)(g:World)(a1:Act),(Instr.enterLoop fn a.tmps ps.toArray assign xt E.ac.round).run E.P w=.ok (l,ds) g/\r.tmps=a.tmps/\r.ps=ps.toArray/\r.assign=assign/\r.body=xt/\r.fn=fn/\
   a1={a with defers:=ds++a.defers}/\w.heap.size<=l/\l<g.heap.size/\r.D<g.heap.size/\r.D≠l/\¬aw r.D/\(E.B<=r.D\/E.X r.D)/\g.heap[l]?=some (r.obj .ready none)/\g.heap[r.D]?=some (.deferred<|some [])/\¬c5.all r.D/\Below w.heap.size w g/\(∀p v,c5.h p=some v->g.cell? p=some v)/\ZB E u c5 a1 g/\
   ∀D,({target:=.collected D,args:=#[]}:Deferred)∈a1.defers->D<g.heap.size/\¬aw D:=by
  have hold:∀D,({target:=.collected D,args:=#[]}:Deferred)∈a.defers->D<w.heap.size:=λD hD=>by
   obtain⟨D',f1,f2,f3,f4⟩:=A.RR.2 _ hD;grind
  rcases hro with hro|⟨l0,hro,r0,hp1,hp2⟩
  ·obtain⟨r,V⟩:∃r:Rg,r={fn:=fn,tmps:=a.tmps,ps:=ps.toArray,assign:=assign,body:=xt,D:=w.heap.size}:=⟨_,rfl⟩;obtain⟨g,W⟩:∃g,(w.alloc<|.deferred<|some []).alloc (r.obj .ready none)=g:=⟨_,rfl⟩;have sz1:g.heap.size=w.heap.size+2:=by rw[←W];simp
   have hL1:g.heap[w.heap.size+1]?=some (r.obj .ready none):=by
    grind [World.alloc_heap_new]
   have hK1:g.heap[w.heap.size]?=some (.deferred<|some []):=by
    grind [Below.heap_alloc,World.alloc_heap_new]
   have C:Below w.heap.size w g:=by rw[←W];exact(((Below.refl _ w).alloc (Zq _) _).alloc F _)
   have M:∀p v,c5.h p=some v->g.cell? p=some v:=λp v e=>by
    have O:=A.hw p v e;rw[C.cell<|block_lt_of_cell O];exact O
   have t:ZB E u c5 a g:=A.below_grow C (Mem.le_refl _) (λp v e=>.inl e) M;have hrD:r.D=w.heap.size:=by rw[V]
   refine⟨r,w.heap.size+1,[{target:=.collected w.heap.size,args:=#[]}],g,{a with defers:={target:=.collected w.heap.size,args:=#[]}::a.defers},?_,by rw[V],by rw[V],by rw[V],by rw[V],by rw[V],rfl,I,I,I,I,λhz=>by grind,.inl I,hL1,by grind,?_,C,M,?_,?_⟩
   ·rw[show E.ac.round=none from hro,←W,V];exact run_enterLoop_outer _ _ _ _ _
   ·grind
   ·refine⟨t.below,t.hB,t.nt,⟨?_,?_⟩,t.M6,t.hw,t.hle,t.hnew,t.loc,t.arr,t.used,t.Y,t.UU,t.Uw⟩
    ·refine bβ.2 ⟨λd hd e=>?_,t.RR.1⟩;grind
    intro d hd;rcases sf.1 hd with rfl|hd
    ·grind
    exact t.RR.2 d hd
   grind
  obtain⟨g1,_,g3⟩:=A.M6 _ hp1;obtain⟨q1,_,q3⟩:=A.M6 _ hp2;simp only at g1 g3 q1 q3;have hDlt:=(sa.1 q3).1;obtain⟨r,V⟩:∃r:Rg,r={fn:=fn,tmps:=a.tmps,ps:=ps.toArray,assign:=assign,body:=xt,D:=r0.defers}:=⟨_,rfl⟩;obtain⟨g,W⟩:∃g,w.alloc (r.obj .ready none)=g:=⟨_,rfl⟩;have sz1:g.heap.size=w.heap.size+1:=by rw[←W];simp
  have hL1:g.heap[w.heap.size]?=some (r.obj .ready none):=by grind [World.alloc_heap_new]
  have C:Below w.heap.size w g:=by rw[←W];exact(Below.refl _ w).alloc (Zq _) _
  have M:∀p v,c5.h p=some v->g.cell? p=some v:=λp v e=>by
   have O:=A.hw p v e;rw[C.cell<|block_lt_of_cell O];exact O
  have hrD:r.D=r0.defers:=by rw[V]
  refine⟨r,w.heap.size,[],g,a,?_,by rw[V],by rw[V],by rw[V],by rw[V],by rw[V],F,I,I,I,I,λhz=>(hZf _ hz).2.2.2.2.1 _ hp2 (by rw[hrD]),.inr<|.inr ⟨_,hp2,by rw[hrD]⟩,hL1,by rw[hrD];exact(C.block _ hDlt).trans q3,by grind,C,M,A.below_grow C (Mem.le_refl _) (λp v e=>.inl e) M,λD hD=>by grind⟩;rw[show E.ac.round=some l0 from hro,←W,V];exact run_enterLoop_inner g3 _ _ _ _ _
 have hlow1:∀k,k<w.heap.size->g.heap[k]?=w.heap[k]?:=λk hk=>C.block k hk
 have hsW:=C.size;have hpinl:∀p∈E.pins,p.1≠l:=λp G=>by
  have:=(sa.1 (A.M6 p G).2.2).1;omega
 have hpinB:∀p∈E.pins,p.1<g.heap.size/\¬aw p.1:=λp G=>by
  have:=(sa.1 (A.M6 p G).2.2).1;grind
 have hlZ:l<g.heap.size/\¬aw l:=⟨hlW,λhz=>by grind⟩;have hh7:∀vy x,look (slots++f K) vy=some x->Holds c5 a1 g vy x:=λvy x hx=>SQ (λb N=>hlow1 b<|hall6 b N) M (WV.of<|C.mono<|Zr _) (by rw[ha1])<|hh5 vy x hx
 obtain⟨J,hJ⟩:∃J:σ×Option Code->bm,J=λq=>JR E u a1 g.heap.size aw l r (slots++f q.1) q.2:=⟨_,rfl⟩
 have hst:∀q,Y2 (J q):=λq=>by
  grind [JR.ZV]
 have hnow:∀i x,L[i]?=some x->(ZZ (stepG xn) (K,none)<|L.take i).2=true->∃q,ZZ (stepG xn) (K,none) (L.take i)=((q,none),true):=by
  intro i x _ h;have h2:=(LB xn K (L.take i) (K,none) rfl).1 h;grind
 have hcb:∀v,v=Value.func (.yield l) #[] #[]->∀(i:Nat)(x:α),L[i]?=some x->(ZZ (stepG xn) (K,none)<|L.take i).2=true->
   ND E.P v (encs x) (.bool (stepG xn (ZZ (stepG xn) (K,none)<|L.take i).1 x).2) (J (ZZ (stepG xn) (K,none)<|L.take i).1) (J (stepG xn (ZZ (stepG xn) (K,none)<|L.take i).1 x).1):=by
  rintro v rfl i x hx hrun;obtain⟨q,hq⟩:=hnow i x hx hrun;rw[hq];intro h Y ar vs hwW hYlt hJ0 hargs;refine .inr ⟨l,rfl,?_⟩;have hJ0':JR E u a1 g.heap.size aw l r (slots++f q) none h Y ar:=by grind
  have:=qH (s1:=(xn q x).1) (j:=(xn q x).2) hpinl r (ps:=ps) (xs:=encs x) (vs:=vs) (B1:=g.heap.size) I hlZ hDX hDl (by grind) hrp (hpl x).symm hpw
   (λp G=>by have:=bj.1 hpt p G;simp only[Zw,rb]at this;exact this.1) (λp G=>by have:=bj.1 hpt p G;simp only[Zw,rb]at this;exact this.2) (htup x) hYlt hwW hJ0' hargs (hhi _) (hslots _)
   (λc0 w0 p1 p2 k1 k2=>by rw[hra,hrb];grind)
  rw[hJ];exact this
 have hG:=hseq J (stepG xn) (K,none) (λv=>v=.func (.yield l) #[] #[]) hst hcb;obtain⟨cL,hcL⟩:∃cL:Ctx,cL=⟨c5.h,lo,λ_=>none,λb=>b<g.heap.size/\¬aw b⟩:=⟨_,rfl⟩;have hCtx:Pp (kb.map (·.1)) cL g:=by
  rw[hcL];refine⟨M,λk b e=>?_,(λk m hv b e=>by cases e),λk hk=>⟨hln k hk,rfl⟩,λb hy=>⟨hy.1,λk e=>hy.2<|by grind,(λk m hv e=>by cases e)⟩⟩;have hz:aw b:=by grind
  grind
 have hrd:∀p∈(3000,X.res<|J (K,none))::Hx kb,∀b:Act,Holds cL b g p.1 p.2:=by
  intro p G b;rcases sf.1 G with rfl|G
  ·unfold Holds;rw[Zm I,Zm I,Zm I];refine .inr ⟨rfl,_,rfl,hst _,?_⟩;rw[hJ,hcL];refine⟨c5,hb7,Mem.le_refl _,λp v e=>.inl e,λb N hz=>⟨N,hz⟩,λb N=>⟨by grind,λhz=>(hZf b hz).2.2.2.1 N⟩,hL1,(λh=>by grind),⟨hK1,hnD⟩,hh7⟩
  obtain⟨q,hq,rfl⟩:=rx.1 G;have h2:=bj.1 hkd q hq;simp only[Zw,rb]at h2;obtain⟨b',o,f1,f2,f3⟩:=hbx q hq;unfold Holds;rw[Zm I,Zn I];rw[hcL];refine .inr ⟨b',o,?_,?_,f3.mono ⟨Mem.le_refl _,λ_ _ e=>e,(λ_ _ _ _ e=>by cases e)⟩⟩
  all_goals grind
 have hcalls:=hG cL g (.func (.yield l) #[] #[]::cvs) hCtx hrd ⟨rfl,hcv.mono λ_ _ h=>h.mono<|by rw[hcL];exact⟨Mem.le_refl _,λ_ _ e=>e,(λ_ _ _ _ e=>by cases e)⟩⟩;have harr:(Value.func (.yield l) #[] #[]::cvs).toArray= #[Value.func (.yield l) #[] #[]]++cvs.toArray:=F
 refine⟨l,ds,g,{target:=.fn (.func gf) cvs.toArray,args:=#[.func (.yield l) #[] #[]]},g,gf,#[.func (.yield l) #[] #[]]++cvs.toArray,g,?_,?_,?_,?_,Z,?_⟩
 ·exact hrun
 ·simp only[resolve,hev];simp[go_sem]
 ·intro f' hf';trivial
 ·grind [invoke]
 have O:CallsIn E.ac (0 - 1) E.P gf (#[.func (.yield l) #[] #[]]++cvs.toArray) g _:=(callsIn_wide (n:=0)).2<|harr▸hcalls;refine O.mono ?_;rintro e W2 ⟨v,c',rfl,G⟩;have hJ1:=G.wr (3000,.res<|J (ZZ (stepG xn) (K,none) L).1) F a1;unfold Holds at hJ1;rw[Zm I,Zm I,Zm I]at hJ1;rcases hJ1 with h|⟨_,J',e1,_,hJ2⟩
 ·cases h
 cases e1;rw[hJ]at hJ2;obtain⟨q,hq⟩:∃q,q=(ZZ (stepG xn) (K,none) L).1:=⟨_,rfl⟩;rw[←hq]at hJ2;obtain⟨c8,hb8,_,_,_,hall8,S,hnl8,_,hh8⟩:=hJ2;have hend8:=run_endLoop (P:=E.P) (l:=l) (w:=W2) (r:={state:=cN q.2,pending:=q.2,fn:=r.fn,tmps:=r.tmps,params:=r.ps,assign:=r.assign,body:=r.body,defers:=r.D}) S (by grind [cN]);refine⟨q.2,_,hend8,?_⟩;obtain⟨W3,hW3⟩:∃W3,W3=W2.putObj l (.loop {state:=.exhausted,pending:=q.2,fn:=r.fn,tmps:=r.tmps,params:=r.ps,assign:=r.assign,body:=r.body,defers:=r.D}):=⟨_,rfl⟩;have ho3:∀k,k≠l->W3.heap[k]?=W2.heap[k]?:=λk hk=>by grind [World.putObj_heap_other]
 have hc3:∀p,W3.cell? p=W2.cell? p:=λp=>by rw[hW3];exact Sa S rfl rfl p
 have hB3:WV 0 (λ_=>False) W2 W3:=by rw[hW3];exact⟨rfl,rfl,rfl,F,λk hk=>I⟩
 have good:Good E u (slots++f q.1) a1 W3:=by
  refine⟨c8,hb8.keep (λp G=>ho3 _<|hpinl p G) hB3 (λb N=>ho3 b I) (λp v e=>by rw[hc3];exact hb8.hw p v e) ?_,λvy x hx=>SQ (λb N=>ho3 b λe=>hnl8<|e▸N) (λp v e=>by rw[hc3];exact hb8.hw p v e) hB3 rfl<|hh8 vy x hx⟩;intro D f1 _;refine(ho3 D ?_).trans f1;rintro rfl;rw[S]at f1;cases f1
 show(match q.2 with|none=>_|some c=>_);have ha1':({tmps:=a.tmps,defers:=ds++a.defers}:Act)=a1:=by rw[ha1]
 rw[←hW3];cases hq2:q.2 with
 |none=>
  refine⟨u,slots++f q.1,by grind,hend q.1 ?_⟩;refine Prod.ext (hq.symm.trans<|Prod.ext rfl hq2) ((LB xn K L (K,none) rfl).2<|by grind)
 |some cd=>
  have:=hjump q.1 cd (hq.symm.trans<|Prod.ext rfl hq2) a1 W3 good;grind
def k9.toB{P:Program}{encs:α->bi}{l:List α}(h:k9 P f vt encs l):Dd P f [] vt encs l:=λJ g i Φ b e=>h J g i Φ b e
def OK.rangeFunc{σ α:Type}{S:Operand}{ps:bc}{assign xt:Code}{C:Nat}{vt:bi}{encs:α->bi}{L:List α}{r:St}(u:bc)(slots:St)(b:σ->St)(n:σ)(xn:σ->α->σ×Option Code)
  (t:k9 E.P C vt encs L) (m:∀vj w,(callFunc C vj).run E.P w=.ok (.enter C vj) w) (F:E.round=none\/∃M,E.round=some M/\k7 M E.pins) (X:YO s S (.fn C vt) r) (B:vt.all (Np [])=true) (A:vt.all (λu=>!Yx u)=true)
  (xf:Le s<|slots++b n) (W:∀q,(slots++b q).all (VB u)=true) (K:∀q,(b q).all (SN u)=true) (f:∀q,slots.all (I4<|b q)=true)
  (J:∀x,R (encs x)=R ps) (o:∀x,(encs x).all (λx=>!X4 x)=true) (G:ps.Pairwise (· ≠ ·)) (I:ps.all (λp=>Nat.blt p E.nt&&Nat.blt p 1000)=true)
  (g:∀(i:Nat)(x:α)(q:σ),L[i]?=some x->ZZ (stepG xn) (n,none) (L.take i)=((q,none),true)->∀(l:Nat)(c0:Ctx)(w0:World)(p1 p2:List<|Nat×Obj),Og E (rE E u c0 w0 l p1) l->Og E (rE E u c0 w0 l p2) l->
   OK (rE E u c0 w0 l p1) assign (λe U V=>e=.normal/\OK (rE E u c0 w0 l p2) xt (den (rE E u c0 w0 l p2) (x7 b<|xn q x) []) U V) u (Ko ps (encs x)++(slots++b q)))
  (v:∀q,ZZ (stepG xn) (n,none) L=((q,none),true)->den E Q k .normal u (slots++b q))
  (j:∀q T,(ZZ (stepG xn) (n,none) L).1=(q,some T)->OK E T (den E Q k) u (slots++b q)):OK E (.rangeFunc S ps.toArray assign xt) (den E Q k) U s:=
 OK.QW u slots b n xn [] t.toB trivial rfl m F X (by
  rw[bj]at B A⊢;intro x N;have O:=B x N;have Z:=A x N;cases x<;>first|(cases O;done)|(simp only[Em,Zw];exact⟨O,Z⟩)) xf W K f J o G I g v j
end
def S.mkData{bytes:Nat}{ps:List<|Nat×Operand}(hA:RP E.P t e sz bytes)(hg:Gd q0 s jn rg)(hd:ca E d=true)
  (hx:V5 s (ps.map (·.2)) us r) (g:us.all Qj=true) (_hrows:us.map Yv=vi) (hf:Oj (λi=>some (i * sz,sz)) (List.replicate (n * sz) .any) ((ps.map (·.1)).zip us)=some vi.flatten)
  (hr:vi.all (λq=>Nat.beq (R q) sz)=true) (hn:R vi=n) (hD:vi.flatten.all BI=true) (N:Nat.ble (n * sz) 16777216=true):
  Zb E q0 ⟨some d,.buildSlice t n ps.toArray,ty,v9,v4,jn⟩ s (rg++r) [(d,.sl vi)] []:=
 Zb.mk hg hd rfl hx.looks λU c a w O W hal=>by
  clear _hrows hal;rw[ky]at N;have o:∀q∈vi,R q=sz:=λq X=>Nat.eq_of_beq_eq_true<|(bj.1 hr) q X
  have M:R vi.flatten=n * sz:=by rw[YM o,hn]
  obtain⟨V,zv,hz,hzs⟩:=hA.run;have C:∀(q:Array Value),q.size=n * sz->Z1 (Zc c) (List.replicate (n * sz) .any) q.toList:=λq X=>Z1.WI (by simp[X]) λi u v g _=>by
   simp only[cθ]at g;split at g
   ·cases g;exact trivial
   cases g
  obtain⟨vv,T,h2⟩:=Rt (c:=c) (λi=>some (i * sz,sz)) _ _ _ (((Array.range<|n * sz).map λi=>(if n * sz=0 then #[]else zv.cells)[i % (if n * sz=0 then #[]else zv.cells).size]!)) vi.flatten (C _ F) (Pa (hx.rep (c:=c) (a:=a) (w:=w) W) g) hf;have hcs:vv.size=n * sz:=by have:=h2.length;rw[M]at this;simpa using this.symm
  have hB:=Ww w<|.cells vv e;have B:(w.alloc<|.cells vv e).heap[w.heap.size]?=some (.cells vv e (0,0)):=heap_alloc_new w _;have hds:=Od h2 hD;obtain⟨h',j⟩:∃h':Mem,h'=λp=>if p.block=w.heap.size then(w.alloc<|.cells vv e).cell? p else c.h p:=⟨_,rfl⟩
  have xf:Mem.le c.h h':=by
   intro p u b;rw[j];dsimp only;rw[Zm<|by have:=block_lt_of_cell<|O.hw p u b;omega];exact b
  have K:∀p u,h' p=some u->c.h p=some u\/w.heap.size<=p.block:=λp u b=>by
   rw[j]at b;dsimp only at b;split at b
   ·exact .inr I
   exact .inl b
  have f:=O.below_grow hB xf K (λp u b=>by
   rw[j]at b;dsimp only at b;split at b
   ·exact b
   rw[hB.cell<|block_lt_of_cell<|O.hw p u b];exact O.hw p u b)
  have A:Ext c ⟨h',c.loc,c.arr,c.Y⟩:=⟨xf,λ_ _ e=>e,λ_ m G lv e=>⟨m,G,lv,e,Zq _,λ_=>rfl⟩⟩;refine⟨.slice (some ⟨w.heap.size,0,none⟩) n n,⟨h',c.loc,c.arr,c.Y⟩,w.alloc<|.cells vv e,?_,f,A,?_,(λp b=>by cases b),λvy u L _ g=>Holds.below O hB A (λ_ _ _ e=>e) rfl K f.hw L g⟩
  ·have Z:¬(n * sz>2 ^ 24):=I
   simp only[execOp,Instr.buildSlice,Sem.run_bind,run_underlying hA.OA,Result.andThen_ok,V,Z,if_false];by_cases h0:n * sz=0
   ·simp only[h0,if_true]at T;simp at T;simp[h0,T,newRow]
   simp only[h0,if_false]at T;simp[h0,hz,T,newRow]
  have J:=hA.pos;have hnn:n<=n * sz:=dψ n J;have:ZR h' (.sl vi)<|.slice (some ⟨w.heap.size,0,none⟩) (R vi) n:=by
   refine .sl vi w.heap.size 0 n sz vv.toList I (by unfold maxLen;omega) o (by rw[M];simp[hcs]) ?_ ?_
   ·intro i v G;rw[j];dsimp only;rw[Zn rfl,cell_of_row _ w.heap.size (0+i) vv e (0,0) B,wc];simpa using G
   intro i u v g G;exact(hds.get g G).mono xf
  rw[hn]at this;exact ZR.WB (c:=⟨h',c.loc,c.arr,c.Y⟩) this
open Go.RowKit Go.ChangeShapes Go.WideShapes Go.ChangeAt
inductive Ty where
 |int (k:IntKind)
 |bool
 |str
 |sl (e:Ty)
 |st (c:Ty)
 |nil
 |cons (f r:Ty)
def Ty.cells:Ty->Nat
 |.int _|.bool|.str|.sl _=>1
 |.st c=>c.cells
 |.nil=>0
 |.cons f r=>f.cells+r.cells
def Ty.is(P:Program):Ty->(TypeId ⊕ (List Field×Nat))->Prop
 |.int k,.inl t=>P.underlying t=some (.int k)
 |.bool,.inl t=>P.underlying t=some .bool
 |.str,.inl t=>P.underlying t=some .string
 |.sl e,.inl t=>∃b,P.underlying t=some (.slice b)/\P.cellsOf b=e.cells/\0<e.cells/\Ty.is P e (.inl b)
 |.st c,.inl t=>∃fs,P.underlying t=some (.struct fs)/\P.cellsOf t=c.cells/\Ty.is P c (.inr (fs.toList,0))
 |.nil,.inr (fs,_)=>fs=[]
 |.cons f r,.inr (fd::fs,qc)=>fd.offset=qc/\P.cellsOf fd.type=f.cells/\Ty.is P f (.inl fd.type)/\Ty.is P r (.inr (fs,qc+f.cells))
 |_,_=>False
def Shape:Ty->bi->Prop
 |.int k,xs=>∃n,xs=[.int k n]
 |.bool,xs=>∃b,xs=[.bool b]
 |.str,xs=>∃s,xs=[.str s]
 |.sl e,xs=>∃vi,xs=[.sl vi]/\∀r∈vi,Shape e r
 |.st c,xs=>Shape c xs
 |.nil,xs=>xs=[]
 |.cons f r,xs=>∃a b,xs=a++b/\Shape f a/\Shape r b
theorem mapM_some{α β:Type}{f:α->Option β}:∀{l:List α}{qm:List β},l.mapM f=some qm->R qm=R l/\∀(i:Nat)(a:α),l[i]?=some a->∃b,qm[i]?=some b/\f a=some b
 |[],qm,h=>by simp_all
 |a::l,qm,h=>by
  rw[List.mapM_cons]at h;cases g:f a with
  |none=>grind
  |some b=>
   cases e:l.mapM f with
   |none=>simp_all
   |some n=>
    simp[g,e]at h;subst h;obtain⟨m,j⟩:=mapM_some e;grind
def Z1.flat{α β:Type}{R:α->β->Prop}:∀{vi:List<|List α}{vss:List<|List β},Z1 (Z1 R) vi vss->Z1 R vi.flatten vss.flatten
 |[],[],_=>trivial
 |_::_,_::_,h=>h.1.append<|Z1.flat h.2
 |[],_::_,h=>h.elim
 |_::_,[],h=>h.elim
theorem Z1.build{α β:Type}{R:α->β->Prop}{S:α->Prop}:∀(f:List β),(∀b∈f,∃a,R a b/\S a)->∃e:List α,Z1 R e f/\∀a∈e,S a
 |[],_=>⟨[],Zo,λa h=>by cases h⟩
 |b::f,h=>by
  obtain⟨a,j,o⟩:=h b rv;obtain⟨e,i,n⟩:=Z1.build f λb g=>h b<|rl _ g
  exact⟨a::e,⟨j,i⟩,λx m=>by grind⟩
variable{cs:List Value}
section
variable{H:Type}{enc:TypeId×Value->H}{P:Program}{spare:Nat->Bool}
theorem NI{a:Addr}{vs:List Value}(h:w.cells? 0 a n=some vs):R vs=n/\∀(i:Nat)(v:Value),vs[i]?=some v->w.cell? (a.add i)=some v:=by
 unfold World.cells? at h;rw[Zn<|Zr _]at h;obtain⟨e,b⟩:=mapM_some h;simp_all[ae]
def rM{k:IntKind}{n:Int}(h:(Lit.int k n).wf=true):k.wrap n=n:=by
 simp only[Lit.wf,Zw,de]at h;cases k
 ·exact IntWalk.i8_in n h
 ·exact IntWalk.i16_in n h
 ·exact IntWalk.i32_in n h
 ·exact mn n h
 ·exact bν n h
 ·exact IntWalk.u16_in n h
 ·exact IntWalk.u32_in n h
 exact IntWalk.u64_in n h
def trod_int{t:TypeId}{k:IntKind}{x:DataW H×List MemPlace}(e:P.underlying t=some (.int k))(h:DataW.trod enc P w 0 spare true b t cs=some x):∃n,cs=[.int k n]/\k.wrap n=n:=by
 cases b with
 |zero=>cases h
 |succ b=>
  match cs,h with
  |[],h=>simp[DataW.trod,e]at h
  |[v],h=>
   cases v<;>simp[DataW.trod,e]at h;rename_i g n;obtain⟨⟨rfl,f⟩,_⟩:=h;exact⟨n,rfl,rM f⟩
  |_::_::_,h=>simp[DataW.trod,e]at h
def trod_bool{t:TypeId}{x:DataW H×List MemPlace}(f:P.underlying t=some .bool)(h:DataW.trod enc P w 0 spare true e t cs=some x):∃b,cs=[.bool b]:=by
 cases e with
 |zero=>cases h
 |succ e=>
  match cs,h with
  |[],h=>simp[DataW.trod,f]at h
  |[v],h=>
   cases v<;>simp[DataW.trod,f]at h;simp
  |_::_::_,h=>simp[DataW.trod,f]at h
def rD{t:TypeId}{x:DataW H×List MemPlace}(e:P.underlying t=some .string)(h:DataW.trod enc P w 0 spare true b t cs=some x):∃s:ByteArray,cs=[.string s]/\s.size<=maxLen:=by
 cases b with
 |zero=>cases h
 |succ b=>
  match cs,h with
  |[],h=>simp[DataW.trod,e]at h
  |[v],h=>
   cases v<;>simp[DataW.trod,e]at h;simp_all
  |_::_::_,h=>simp[DataW.trod,e]at h
theorem jW{t e:TypeId}{x:DataW H×List MemPlace}(g:P.underlying t=some (.slice e))(h:DataW.trod enc P w 0 spare true f t cs=some x):
  cs=[.slice none 0 0]\/∃(a:Addr)(len vz:Nat)(n:Nat),cs=[.slice (some a) len vz]/\len<=vz/\vz<=maxLen/\∀i,i<len->∃vs y,w.cells? 0 (a.add<|i * P.cellsOf e) (P.cellsOf e)=some vs/\DataW.trod enc P w 0 spare true n e vs=some y:=by
 cases f with
 |zero=>cases h
 |succ f=>
  match cs,h with
  |[],h=>simp[DataW.trod,g]at h
  |[v],h=>
   cases v<;>simp only[DataW.trod,g]at h<;>try (cases h;done)
   rename_i a len vz;cases a with
   |none=>
    grind
   |some a=>
    right;simp only at h;split at h
    ·rename_i m;refine⟨a,len,vz,f,rfl,m.2.1,m.2.2,λi hi=>?_⟩;rw[dω]at h;obtain⟨j,p,_⟩:=h;obtain⟨_,o⟩:=mapM_some p;obtain⟨b,_,q⟩:=o i i (by simp_all);grind [Option.bind_eq_some_iff]
    cases h
  |_::_::_,h=>simp[DataW.trod,g]at h
def jY{t:TypeId}{fs:Array Field}{x:DataW H×List MemPlace}(e:P.underlying t=some (.struct fs))(h:DataW.trod enc P w 0 spare true b t cs=some x):
  (R cs)=P.cellsOf t/\∃n qm,(fs.toList.mapM λf=>DataW.trod enc P w 0 spare true n f.type<|(cs.drop f.offset).take<|P.cellsOf f.type)=some qm:=by
 cases b with
 |zero=>cases h
 |succ b=>
  simp only[DataW.trod,e]at h;split at h
  ·rename_i g;rw[M2]at h;obtain⟨qm,i,_⟩:=h;exact⟨g,b,qm,i⟩
  cases h
theorem rC:∀(T:Ty),(∀(g:Nat)(t:TypeId)(cs:List Value)(x:DataW H×List MemPlace),Ty.is P T (.inl t)->DataW.trod enc P w 0 spare true g t cs=some x->∃xs,Z1 (ZR<|VW w) xs cs/\Shape T xs)/\
  (∀(g:Nat)(fs:List Field)(qc:Nat)(cs:List Value)(qm:List<|DataW H×List MemPlace),Ty.is P T (.inr (fs,qc))->(fs.mapM λf=>DataW.trod enc P w 0 spare true g f.type<|(cs.drop f.offset).take<|P.cellsOf f.type)=some qm->R cs=qc+T.cells->
   ∃xs,Z1 (ZR<|VW w) xs (cs.drop qc)/\Shape T xs):=by
 intro T
 induction T with
 |int k=>
  refine⟨λg t cs x j h=>?_,λg fs qc cs qm j=>j.elim⟩;obtain⟨n,rfl,hn⟩:=trod_int j h;exact⟨[.int k n],⟨.int hn,Zo⟩,n,rfl⟩
 |bool=>
  refine⟨λg t cs x j h=>?_,λg fs qc cs qm j=>j.elim⟩;obtain⟨b,rfl⟩:=trod_bool j h;exact⟨[.bool b],⟨.bool b,Zo⟩,b,rfl⟩
 |str=>
  refine⟨λg t cs x j h=>?_,λg fs qc cs qm j=>j.elim⟩;obtain⟨s,rfl,hs⟩:=rD j h;exact⟨[.str s.data.toList],⟨ZR.str (h:=VW w) s.data.toList<|by simpa using hs,Zo⟩,_,rfl⟩
 |sl e ih=>
  refine⟨λg t cs x j h=>?_,λg fs qc cs qm j=>j.elim⟩;obtain⟨et,ht1,ht2,K,ht4⟩:=j;rcases jW ht1 h with rfl|⟨a,len,vz,n,rfl,xf,q,S⟩
  ·exact⟨[.sl []],⟨.I3 none 0<|Zr _,Zo⟩,[],rfl,λr N=>by cases N⟩
  by_cases h0:len=0
  ·subst h0;exact⟨[.sl []],⟨.I3 (some a) vz q,Zo⟩,[],rfl,λr N=>by cases N⟩
  rw[ht2]at S;have J:∃m:List<|List Value,R m=len/\∀i vs,m[i]?=some vs->w.cells? 0 (a.add<|i * e.cells) e.cells=some vs/\∃y,DataW.trod enc P w 0 spare true n et vs=some y:=by
   refine⟨(List.range len).map λi=>(w.cells? 0 (a.add<|i * e.cells) e.cells).getD [],F,λi vs hi=>?_⟩;grind
  obtain⟨m,hl,hv⟩:=J;have B:∃vi:List bi,Z1 (Z1<|ZR<|VW w) vi m/\∀r∈vi,Shape e r:=by
   refine Z1.build m λvs p=>?_
   grind [List.getElem?_of_mem]
  obtain⟨vi,o,hr2⟩:=B;have hcl:∀vs∈m,R vs=e.cells:=λvs p=>by
   grind [List.getElem?_of_mem,NI]
  have M:∀r∈vi,R r=e.cells:=λr N=>by
   obtain⟨i,hi⟩:=bω N;obtain⟨vs,A,G⟩:=o.WN hi;rw[G.length];grind
  have L:R vi=len:=by rw[o.length,hl]
  have hspot:a.spot=none:=by
   obtain⟨vs,y,A,_⟩:=S 0 I;obtain⟨G,C⟩:=NI A;have W:0<R vs:=I
   have h5:=C 0 _<|Zv W;have h6:=u6 h5;grind [Addr.add]
  have ha:a=⟨a.block,a.off,none⟩:=by cases a;simp_all
  refine⟨[.sl vi],⟨?_,Zo⟩,vi,rfl,hr2⟩;rw[ha,←L];have hfl:=YM M;refine .sl vi a.block a.off vz e.cells m.flatten I q M (o.flat).length ?_ λi x v hx hv'=>(o.flat).get hx hv'
  intro i v hi;have hil:i<len * e.cells:=by
   have:=(ae.1 hi).1;rw[←(o.flat).length,hfl,L]at this;exact this
  have hdiv:i / e.cells<len:=by rw[Nat.div_lt_iff_lt_mul K];exact hil
  have p:m[i / e.cells]?=some m[i / e.cells]:=Zv I;obtain⟨A,_⟩:=hv _ _ p;obtain⟨G,C⟩:=NI A;have hfa:=SL (sz:=e.cells) (i / e.cells) hcl p;have O:i % e.cells<e.cells:=Nat.mod_lt _ K;have hget:m[i / e.cells][i % e.cells]?=some v:=by
   rw[←hfa,H0,Zn O,m9,Nat.div_add_mod' i e.cells];exact hi
  grind [Ul,Nat.div_add_mod']
 |st c ih=>
  refine⟨λg t cs x j h=>?_,λg fs qc cs qm j=>j.elim⟩;obtain⟨fs,A,G,C⟩:=j;obtain⟨W,n,qm,h5⟩:=jY A h;obtain⟨xs,h6,h7⟩:=ih.2 n fs.toList 0 cs qm C h5 I;exact⟨xs,by grind,h7⟩
 |nil=>
  refine⟨λg t cs x j=>j.elim,λg fs qc cs qm j h hl=>?_⟩;refine⟨[],?_,rfl⟩;have:cs.drop qc=[]:=List.drop_eq_nil_of_le (by simp_all[Ty.cells]);rw[this];trivial
 |cons f r Z X=>
  refine⟨λg t cs x j=>j.elim,λg fs qc cs qm j h hl=>?_⟩;cases fs with
  |nil=>exact j.elim
  |cons V fs=>
   obtain⟨A,G,C,W⟩:=j;subst A;rw[List.mapM_cons]at h;cases hf:DataW.trod enc P w 0 spare true g V.type ((cs.drop V.offset).take<|P.cellsOf V.type)with
   |none=>grind
   |some y=>
    cases hm:fs.mapM (λf=>DataW.trod enc P w 0 spare true g f.type<|(cs.drop f.offset).take<|P.cellsOf f.type)with
    |none=>simp_all
    |some ys=>
     obtain⟨xa,a1,a2⟩:=Z.1 g V.type _ y C hf;obtain⟨xb,b1,b2⟩:=X.2 g fs (V.offset+f.cells) cs ys W hm (by grind [Ty.cells]);refine⟨xa++xb,?_,xa,xb,rfl,a2,b2⟩;have:=a1.append b1;rwa [G,←eε,a7]at this
def kL(T:Ty)(x:X):Prop:=match T with
 |.st c=>∃xs,x=.agg xs/\Shape c xs
 |T=>Shape T [x]
def Ty.top:Ty->Bool
 |.int _|.bool|.str|.sl _|.st _=>true
 |_=>false
theorem single{T:Ty}(i:T.top=true){t:TypeId}{base:Nat}(b:Ty.is P T<|.inl t)(j:∀c,T≠.st c)(g:Value.okWide P w .any base t v):v.cells.toList=[v]:=by
 cases v<;>try rfl
 rename_i cs;exfalso;cases T with
 |int k=>have b:P.underlying t=some (.int k):=b;simp[Value.okWide,b,Cell.okWide,Cell.ok]at g
 |bool=>have b:P.underlying t=some .bool:=b;simp[Value.okWide,b,Cell.okWide,Cell.ok]at g
 |str=>have b:P.underlying t=some .string:=b;simp[Value.okWide,b,Cell.okWide,Cell.ok]at g
 |sl e=>obtain⟨m,b,_⟩:=b;simp[Value.okWide,b,Cell.okWide,Cell.ok]at g
 |st c=>grind
 |nil=>cases i
 |cons f r=>cases i
def D_toV{x:X}(h:ZR c.h x v):YQ c x v:=by
 cases h with
 |int e=>exact .int e
 |bool b=>exact .bool b
 |str s e=>exact .str s e
 |I3 a vz e=>exact .I3 a vz e
 |sl vi b qc vz j vs i g f o n m=>exact .sl vi b qc vz j vs i g f o n m
 |Yt vv b qc vs i g f=>exact .Yt vv b qc vs i g f
 |raw u e=>exact rfl
def gm{T:Ty}{t:TypeId}{d:DataW H}{ps:List MemPlace}{base:Nat}(o:T.top=true)(m:Ty.is P T<|.inl t)(b:Value.okWide P w .any base t v)(h:DataW.Trod enc P w 0 spare true t v d ps):
  ∃x,YQ (ZL<|VW w) x v/\kL T x:=by
 obtain⟨j,h⟩:=h;obtain⟨xs,f,n⟩:=(rC T).1 j t _ _ m h;by_cases i:∃c,T=.st c
 ·obtain⟨c,rfl⟩:=i;obtain⟨fs,g1,g2,p⟩:=m;unfold Value.okWide at b;rw[g1]at b;obtain⟨cs,rfl,_⟩:=b;refine⟨.agg xs,⟨cs.toList,F,f.mono λx v h=>ZR.Av (c:=ZL<|VW w) h⟩,xs,rfl,n⟩
 have g:∀c,T≠.st c:=λc e=>i ⟨c,e⟩
 rw[single o m g b]at f
 match xs,f,n with
 |[x],f,n=>
  refine⟨x,D_toV (c:=ZL<|VW w) f.1,?_⟩;unfold kL;simp_all
 |[],f,_=>exact f.elim
 |_::_::_,f,_=>exact f.2.elim
def C9:List Ty->bi->Prop
 |[],[]=>True
 |T::Ts,x::xs=>kL T x/\C9 Ts xs
 |_,_=>False
def Hq(P:Program):List Ty->List TypeId->Prop
 |[],[]=>True
 |T::Ts,t::ts=>T.top=true/\Ty.is P T (.inl t)/\P.readableRec t=true/\t<P.types.size/\Hq P Ts ts
 |_,_=>False
theorem AP{base:Nat}:∀{Ts:List Ty}{ts:List TypeId}{vs:List Value}{b:List<|DataW H}{ps:List MemPlace},Hq P Ts ts->(∀(j:Nat)(t:TypeId)(v:Value),ts[j]?=some t->vs[j]?=some v->Value.okWide P w .any base t v)->
  DataW.TrodAll enc P w 0 spare true ts vs b ps->∃xs,Z1 (YQ<|ZL<|VW w) xs vs/\C9 Ts xs
 |[],[],vs,b,ps,_,_,h=>by
  cases vs with
  |nil=>exact⟨[],Zo,Zo⟩
  |cons v vs=>cases b<;>exact h.elim
 |T::Ts,t::ts,vs,b,ps,hT,hok,h=>by
  cases vs with
  |nil=>cases b<;>exact h.elim
  |cons v vs=>
   cases b with
   |nil=>exact h.elim
   |cons d b=>
    obtain⟨p,q,f,e,_⟩:=h;obtain⟨A,o,_,_,a3⟩:=hT;obtain⟨x,n,m⟩:=gm A o (hok 0 t v rfl rfl) f;obtain⟨xs,i,g⟩:=AP a3 (λj t v C B=>hok (j+1) t v (by grind)<|by grind) e;exact⟨x::xs,⟨n,i⟩,m,g⟩
 |[],_::_,_,_,_,h,_,_=>h.elim
 |_::_,[],_,_,_,h,_,_=>h.elim
def E8{w':World}(g:laidOutB P=true)(i:Below w.heap.size w w'):∀{Ts:List Ty}{ts:List TypeId}{vs:List Value}{e:List<|DataW H}{ps:List MemPlace},Hq P Ts ts→(∀x∈ps,x.block<w.heap.size)→DataW.TrodAll enc P w 0 (λ_=>true) true ts vs e ps→
  DataW.TrodAll enc P w' 0 (λb=>decide<|b<w.heap.size) true ts vs e ps
 |[],[],vs,e,ps,_,_,h=>by
  cases vs with
  |nil=>cases e with
   |nil=>exact h
   |cons d e=>exact h.elim
  |cons v vs=>cases e<;>exact h.elim
 |T::Ts,t::ts,vs,e,ps,hT,hlt,h=>by
  cases vs with
  |nil=>cases e<;>exact h.elim
  |cons v vs=>
   cases e with
   |nil=>exact h.elim
   |cons d e=>
    obtain⟨p,q,m,j,rfl⟩:=h;obtain⟨_,_,o,n,a3⟩:=hT;exact⟨p,q,Below.trod g o n m i λx f=>hlt x<|sb _ f,E8 g i a3 (λx f=>hlt x<|ui _ f) j,rfl⟩
 |[],_::_,_,_,_,h,_,_=>h.elim
 |_::_,[],_,_,_,h,_,_=>h.elim
def Lb:∀{ts:List TypeId}{vs:List Value}{b:List<|DataW H}{ps:List MemPlace},DataW.TrodAll enc P w 0 spare true ts vs b ps->R b=R ts
 |[],vs,b,ps,h=>by cases vs<;>cases b<;>first|rfl|exact h.elim
 |t::ts,vs,b,ps,h=>by
  cases vs with
  |nil=>cases b<;>exact h.elim
  |cons v vs=>
   cases b with
   |nil=>exact h.elim
   |cons d b=>obtain⟨_,_,_,e,_⟩:=h;simp[Lb e]
def EF{α:Type}{f:α->bi}:∀{vi:List bi},(∀r∈vi,∃x,r=f x)->∃l:List α,vi=l.map f
 |[],_=>⟨[],rfl⟩
 |r::vi,h=>by
  obtain⟨x,rfl⟩:=h r rv;obtain⟨l,rfl⟩:=EF λr b=>h r<|rl _ b
  exact⟨x::l,rfl⟩
end
def OK.skipQ(h:Q .normal U s):OK E .skip Q U s:=λ_ _ b=>wpIn_skip ⟨U,s,b,h⟩
def CtO(P:Program)(f:Nat)(vj:bi)(sz:Nat)(vi:List bi):Prop:=
 ∀(h:Mem)(w:World)(vs:List Value),(∀p v,h p=some v->w.cell? p=some v)->Z1 (YQ<|ZL h) vj vs->
  Calls P f vs.toArray w λen w'=>∃v h' e g,en=.returned v/\Below w.heap.size w w'/\Mem.le h h'/\(∀p v,h' p=some v->h p=some v\/w.heap.size<=p.block)/\(∀p v,h' p=some v->w'.cell? p=some v)/\
   w'.ownsRow 0 e sz v (R vi) g/\(∀q∈vi,R q=sz)/\Z1 (ZR h') vi.flatten g/\(∀b,v.ownBlock=some b->w.heap.size<=b/\∀o,h' ⟨b,o,none⟩=none)
def rS(E:Env)(t sz:Nat)(vi:List bi):bo:=λe _ s=>(e=.ret\/e=.normal)/\
 ∃k n,look s t=some (.own k n)/\Nat.blt t 1000=true/\look s (2000+k)=some (.arr sz vi)/\R vi=n/\E.fs.contains k=false
def rS.mk{U:List Nat}{vi x2:List<|List X}(g:look s t=some (.own k n))(e:Nat.blt t 1000=true)(j:look s (2000+k)=some (.arr sz x2))(f:R x2=n)(i:x2=vi)(b:E.fs.contains k=false:=by rfl):
  rS E t sz vi .ret U s:=by
 subst i;exact⟨.inl rfl,k,n,g,e,j,f,b⟩
def CtO.intro{P:Program}{f nt t sz:Nat}{fn:Func}{qf:Code}{vj:bi}{vi:List bi}(hf:P.funcs[f]?=some fn)(hb:fn.body=some qf)(hn:fn.ntmps=nt)(hr:fn.results= #[.tmp t])
  (hl:Nat.ble (R vj) nt=true) (ht:vj.all (λx=>!X4 x)=true) (F:Nat.ble (R vj) 1000=true)
  (h:∀w c,OK (TG P nt [] w c) qf (den (TG P nt [] w c) (rS (TG P nt [] w c) t sz vi) []) []<|Uj 0 vj):CtO P f vj sz vi:=by
 intro h0 w vs hw i;refine(callsIn_wide (n:=0)).1<|callsIn_of_wp_marks hf hb trivial ?_ rfl;have qk:=i.length;rw[ky]at hl F;have K:∀b,¬(ZL h0).out [] b:=by
  rintro b (hy|⟨k,_,e⟩|⟨k,m,S,_,e,_⟩)
  all_goals simp_all
 refine wpIn_mono (h w (ZL h0) {tmps:=vs.toArray++Array.replicate (fn.ntmps - vs.toArray.size) undef,defers:=[]} w ?_) ?_
 ·refine⟨ZL h0,⟨WV.refl _ _ _,Zq _,?_,⟨.nil,λd L=>by cases L⟩,(λp J=>by cases J),hw,Mem.le_refl _,λp v e=>.inl e,(λk b e=>by cases e),(λk m S b e=>by cases e),(λ_ _=>⟨rfl,rfl⟩),(λb e=>e.elim),(λk b _ e=>by cases e),(λk m S lv _ e=>by cases e)⟩,λvy x hx=>TV i ht F vy x hx⟩;simp_all
 rintro e G w' ⟨U',s',⟨c,g,hh⟩,he,k,n,l1,l2,Z,X,W⟩
 have j:LeavesInM Fence.wide 0 P fn G.tmps (λen w'=>∃v h' e I,en=.returned v∧Below w.heap.size w w'∧Mem.le h0 h'∧(∀p v,h' p=some v→h0 p=some v∨w.heap.size≤p.block)∧(∀p v,h' p=some v→w'.cell? p=some v)∧
   w'.ownsRow 0 e sz v (R vi) I/\(∀q∈vi,R q=sz)/\Z1 (ZR h') vi.flatten I/\(∀b,v.ownBlock=some b->w.heap.size<=b/\∀o,h' ⟨b,o,none⟩=none)) G.defers .returning w':=by
  refine VG (B:=w.heap.size) (aw:=c.all) G.defers w' g.RR.1 ?_ ?_
  ·intro d L;obtain⟨D,h1,h2,h3,h4⟩:=g.RR.2 d L;exact⟨D,h1,h2,h3,h4⟩
  intro N e1 e2 e3 e4 e5 e6;obtain⟨g,hh⟩:=g.calm hh e1 e2 e3 e4 rfl e5 e6;obtain⟨_,m,A,lv,O,q2,V⟩:=QU<|(hh t _ l1).slot l2;obtain⟨v,e',I,g1,g2,g3,g4⟩:=Wp<|hh _ _ Z;rw[g1]at O;cases O;have hev:=V X.symm;have C:(results fn G.tmps).run P N=.ok (G.tmps.getD t undef) N:=by
   simp_all[results]
  refine⟨_,C,A,c.h,e',I,by simp_all,(g.below.mono (Zq _) λk _ T=>?_).below,g.hle,λp v J=>(g.hnew p v J).imp id λq=>q.elim id λq=>q.elim (λq=>(K _ q).elim) λ⟨_,q,_⟩=>(by cases q),g.hw,g2,g3,g4,λb M=>?_⟩
  ·rcases T with T|⟨p,J,_⟩
   all_goals simp_all
  obtain⟨r1,_,r3,_⟩:=g.arr k _ A b g1 M;exact⟨Env.SX r1<|KT W,r3⟩
 rcases he with rfl|rfl
 ·exact j
 exact j
theorem ZB.bY(f:ZB E U c a w)(hk9:k∉E.fs)(hk:k∉U)
  (N:∀b,v.ownBlock=some b->E.B<=b/\b<w.heap.size/\(∀o,c.h ⟨b,o,none⟩=none)/\¬c.all b/\∃o:Obj,w.heap[b]?=some o/\o.isCells=true):
  ZB E ([k]++U) (c.own k n v true) a w/\Ext c (c.own k n v true)/\(c.own k n v true).arr k=some (n,v,true)/\
   ∀vy y,¬vy<1000->Holds c a w vy y->Holds (c.own k n v true) a w vy y:=by
 have hn:=(f.used k hk).2;have J:∀j q,c.arr j=some q->(c.own k n v true).arr j=some q:=by
  grind [Ctx.own]
 have F:Ext c<|c.own k n v true:=⟨Mem.le_refl _,λ_ _ e=>e,λj m N lv e=>⟨m,N,lv,J _ _ e,Zq _,λ_=>rfl⟩⟩;have xi:∀j m u,(c.own k n v true).arr j=some (m,u,true)->(j=k/\u=v)\/(j≠k/\c.arr j=some (m,u,true)):=by
  grind [Ctx.own]
 have V:∀j,j∈E.fs->(c.own k n v true).arr j=c.arr j:=λj i=>by simp only[Ctx.own];grind
 have M:∀b,(c.own k n v true).all b->c.all b\/v.ownBlock=some b:=by
  intro b h;rcases h with h|h|⟨j,m,u,h,g⟩
  ·exact .inl<|.inl h
  ·exact .inl (.inr<|.inl h)
  grind [Ctx.all]
 have T:∀(D:Nat)(o:Obj),w.heap[D]?=some o->o.isCells=false->v.ownBlock≠some D:=by
  grind
 refine⟨⟨f.below,f.hB,f.nt,⟨f.RR.1,λd hd=>?_⟩,λp hp=>?_,f.hw,f.hle,f.hnew,?_,?_,?_,?_,f.UU,λj m u lv i e=>f.Uw j m u lv i<|V j i▸e⟩,F,by simp[Ctx.own],?_⟩
 ·obtain⟨D,A,g,t,G⟩:=f.RR.2 d hd;exact⟨D,A,g,λe=>(M D e).elim t<|T D _ G rfl,G⟩
 ·obtain⟨A,g,t⟩:=f.M6 p hp;grind
 ·intro j b i;obtain⟨A,g,t,G,h5⟩:=f.loc j b i;refine⟨A,g,t,G,λO m u I e=>?_⟩;rcases xi O m u I with⟨rfl,rfl⟩|⟨_,I⟩
  ·exact(N b e).2.2.2.1 (.inr<|.inl ⟨j,i⟩)
  grind
 ·intro j m u b i L;rcases xi j m u i with⟨rfl,rfl⟩|⟨hne,W⟩
  ·obtain⟨A,g,t,G,_⟩:=N b L;refine⟨.inl A,g,t,λO m' u' I X=>?_⟩;grind [Ctx.all]
  obtain⟨A,g,t,G⟩:=f.arr j m u b W L;refine⟨A,g,t,λO m' u' I X=>?_⟩;grind [Ctx.all]
 ·intro j i;simp only[List.mem_append,pi,eη]at i;refine⟨(f.used j i.2).1,?_⟩;simp only[Ctx.own];rw[Zm i.1];exact(f.used j i.2).2
 ·intro b C;obtain⟨A,g,t,G⟩:=f.Y b C;refine⟨A,g,t,λj m u i e=>?_⟩;grind [Ctx.all,Ctx.own]
 intro vy y K C;unfold Holds at C⊢;rw[Zm K]at C⊢;refine XH C λC=>?_
 split at C
 ·rename_i g;rw[Zn g];obtain⟨b,o,A,t,G⟩:=C;exact⟨b,o,A,t,G.mono F⟩
 rename_i g;rw[Zm g];split at C
 ·rename_i Z;rw[Zn Z];obtain⟨sz,vi,S,e,vs,hx,A,t,G⟩:=C;exact⟨sz,vi,S,e,vs,hx.mono F,J _ _ A,t,G⟩
 rename_i Z;rw[Zm Z];exact C
section
variable{E:Env}{q0:Array Oper}{s r r1 r2 r3 rg:St}{d ty:Nat}{v9:String}{v4:Array Edge}{jn:Option (Nat×Bool)}{x y z:Operand}
def S.dQ(hf:CtO E.P f ys sz vi)(hcall:∀vj w,(callFunc f vj).run E.P w=.ok (.enter f vj) w)(hg:Gd q0 s jn rg)(hd:ca E d=true)
  (ha:V5 s os ys r) (ho:ys.all V3=true) (hn:R vi=n) (hk9:E.fs.contains k=false:=by rfl) (hk1:Nat.blt k 1000=true:=by rfl):
  Zb E q0 ⟨some d,.call {callee:=.value<|.func f,args:=os.toArray,argTypes:=xo},ty,v9,v4,jn⟩ s (rg++r) ((d,.own k n)::[(2000+k,.arr sz vi)]) [k]:=by
 subst hn;simp only[Zw,rb]at hd;rw[rb]at hk1;refine⟨?_,hg.looks.app ha.looks⟩;intro U c a w t hr hal next Q hnx
 have hw:=hg.wanted (o:=⟨some d,.call {callee:=.value<|.func f,args:=os.toArray,argTypes:=xo},ty,v9,v4,jn⟩) λp J=>hr p<|sb _ J;have G:=Yj (ha.rep (c:=c) (a:=a) (w:=w) λp J=>hr p<|ui _ J) ho;have hkU:k∉U:=hal k F;unfold T_;rw[Zn hw];refine⟨λ_ _=>trivial,?_⟩;rw[Oper.semAt_eq _ _ _ λcl he=>by cases he];have hfo:a.eval (.func f)=.func (.func f) #[] #[]:=rfl;have L:(execOp a.eval ⟨some d,.call {callee:=.value<|.func f,args:=os.toArray,argTypes:=xo},ty,v9,v4,jn⟩).run E.P w=.ok (.enter f (os.map a.eval).toArray) w:=by
  simp_all[execOp,resolve,Deferred.ofValue,invoke]
 rw[L];refine⟨Z,?_⟩;have V:CallsIn E.ac (0 - 1) E.P f (os.map a.eval).toArray w _:=(callsIn_wide (n:=0)).2<|hf c.h w _ t.hw G;refine V.mono ?_;rintro en w' ⟨v,h',e,us,rfl,hB,xf,xi,K,q,hsz,M,T⟩;have hb1:=t.below_grow hB xf xi K;have i:Ext c ⟨h',c.loc,c.arr,c.Y⟩:=⟨xf,λ_ _ e=>e,λ_ m hv lv e=>⟨m,hv,lv,e,Zq _,λ_=>rfl⟩⟩;have X:∃a l cp,v=.slice a l cp:=by
  rcases q.2 with⟨rfl,_⟩|⟨g,vz,cur,rfl,_⟩
  all_goals simp
 obtain⟨g1,g2,g3,g4⟩:=hb1.bY (KT hk9) hkU (n:=R vi) (v:=v) (by
  intro b C;obtain⟨h2,h3⟩:=T b C;have B:∃o:Obj,w'.heap[b]?=some o/\o.isCells=true:=by
   rcases q.2 with⟨rfl,_⟩|⟨g,vz,cur,rfl,_,hg',_⟩
   ·cases C
   cases C;exact⟨_,hg',rfl⟩
  obtain⟨o,N,ho2⟩:=B;refine⟨di t.hB h2,(sa.1 N).1,h3,?_,o,N,ho2⟩;rintro(hy|⟨j,hj⟩|⟨j,m,hv,hj,hjb⟩)
  ·have:=(t.Y b hy).1;omega
  ·have:=(t.loc j b hj).2.1;omega
  have:=(t.arr j m hv b hj hjb).2.1;omega)
 have hdt:d<a.tmps.size:=by rw[t.nt];exact hd.2
 have A:=Holds.PJ (a:=a) (e:=e) (vi:=vi) (vs:=us) (sz:=sz) I g3 q hsz M;refine hnx _ _ _ (g1.put _ _) (i.trans g2) ?_ ?_
 ·intro p J;simp only[sf,H4,or_false]at J;rcases J with rfl|rfl
  ·unfold Holds;rw[Zn hd.1,XN hdt];exact⟨X,R vi,_,_,g3,Zq _,λ_=>rfl⟩
  exact A.2.put I _
 intro vy u hk W;have O:d≠vy:=hk (d,.own k<|R vi) F;by_cases V:vy<1000
 ·refine Holds.put ?_ O _;unfold Holds at W⊢;rw[Zn V]at W⊢;exact W.mono<|i.trans g2
 exact(g4 vy u V<|Holds.below t hB i (λ_ _ _ e=>e) rfl xi K V W).put O _
