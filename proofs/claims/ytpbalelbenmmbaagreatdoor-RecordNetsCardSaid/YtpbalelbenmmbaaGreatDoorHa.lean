import Derived.Test.YtpbalelbenmmbaaGreatDoorGs
namespace Go.Ab
open Go.RowKit
inductive HK where
 |box (xs:List X)
 |row (sz cap:Nat) (rows:List (List X))
 |gro (sz cap:Nat) (rows:List (List X))
 |iter (s:List UInt8) (pos:Nat)
def HKIs(h:Mem)(w:World)(b:Nat):HK→Prop
 |.box xs=>(∀o,h ⟨b,o,none⟩=none)∧∃T vs,w.heap[b]?=some (.cells vs T (0,0))∧All2 (RepD h) xs (vs.toList.take xs.length)
 |.row sz cap rows=>(∀o,h ⟨b,o,none⟩=none)∧(rows.length≤cap∧cap≤maxLen∧∀r∈rows,r.length=sz)∧∃T vs,w.heap[b]?=some (.cells vs T (0,0))∧vs.size=cap * sz∧All2 (RepD h) rows.flatten (vs.toList.take (rows.length * sz))
 |.gro sz cap rows=>(∀i,rows.length * sz≤i→h ⟨b,i,none⟩=none)∧(rows.length≤cap∧cap≤maxLen∧∀r∈rows,r.length=sz)∧∃T vs,w.heap[b]?=some (.cells vs T (0,0))∧vs.size=cap * sz∧All2 (RepD h) rows.flatten (vs.toList.take (rows.length * sz))∧
  ∀(i:Nat)(v:Value),(vs.toList.take (rows.length * sz))[i]?=some v→h ⟨b,i,none⟩=some v
 |.iter s pos=>(∀o,h ⟨b,o,none⟩=none)∧w.heap[b]?=some (.stringIter ⟨s.toArray⟩ pos)
theorem HKIs.grow{h h':Mem}{w w':World}{b:Nat}{x:HK}(hx:HKIs h w b x)(hle:Mem.le h h')(hn:∀o v,h' ⟨b,o,none⟩=some v→h ⟨b,o,none⟩=some v)(hw:w'.heap[b]?=w.heap[b]?):HKIs h' w' b x:=by
 have hnone:∀o,h ⟨b,o,none⟩=none→h' ⟨b,o,none⟩=none:=fun o ho=>by
  cases hh:h' ⟨b,o,none⟩with
  |none=>rfl
  |some v=>rw[hn o v hh]at ho;cases ho
 cases x with
 |box xs=>obtain⟨h1,T,vs,h2,h3⟩:=hx;exact⟨fun o=>hnone o (h1 o),T,vs,hw.trans h2,h3.mono fun _ _=>RepD.mono hle⟩
 |row sz cap rows=>obtain⟨h1,h0,T,vs,h2,h3,h4⟩:=hx;exact⟨fun o=>hnone o (h1 o),h0,T,vs,hw.trans h2,h3,h4.mono fun _ _=>RepD.mono hle⟩
 |gro sz cap rows=>obtain⟨h1,h0,T,vs,h2,h3,h4,h5⟩:=hx;exact⟨fun i hi=>hnone i (h1 i hi),h0,T,vs,hw.trans h2,h3,h4.mono fun _ _=>RepD.mono hle,fun i v hv=>hle _ _ (h5 i v hv)⟩
 |iter s pos=>obtain⟨h1,h2⟩:=hx;exact⟨fun o=>hnone o (h1 o),hw.trans h2⟩
abbrev HM(K:Type):=K→Option (Nat×HK)
section
variable{K:Type}
def HeapJ(M:HM K):Mem→(Nat→Prop)→World→Prop:=fun h Y w=>(∀k b x,M k=some (b,x)→Y b∧HKIs h w b x)∧∀k1 k2 b x y,M k1=some (b,x)→M k2=some (b,y)→k1=k2
theorem HeapJ.stable(M:HM K):Stable (HeapJ M):=by
 rintro h h' Y w w' ⟨h1,h2⟩ hle hnew hw hb hY
 exact⟨fun k b x hk=>⟨(h1 k b x hk).1,(h1 k b x hk).2.grow hle (fun o v hv=>(hnew _ v hv).elim id fun e=>absurd (h1 k b x hk).1 e) (hY b (h1 k b x hk).1)⟩,h2⟩
theorem HeapJ.mono{M:HM K}{h:Mem}{Y Y':Nat→Prop}{w:World}(hj:HeapJ M h Y w)(hY:∀b,Y b→Y' b):HeapJ M h Y' w:=⟨fun k b x hk=>⟨hY b (hj.1 k b x hk).1,(hj.1 k b x hk).2⟩,hj.2⟩
theorem HeapJ.nil{h:Mem}{Y:Nat→Prop}{w:World}:HeapJ (fun _:K=>none) h Y w:=⟨fun k b x e=>by simp at e,fun k1 k2 b x y e=>by simp at e⟩
theorem HeapJ.less{M M':HM K}{h:Mem}{Y:Nat→Prop}{w:World}(hj:HeapJ M h Y w)(hM:∀k p,M' k=some p→M k=some p):HeapJ M' h Y w:=⟨fun k b x hk=>hj.1 k b x (hM k _ hk),fun k1 k2 b x y e1 e2=>hj.2 k1 k2 b x y (hM _ _ e1) (hM _ _ e2)⟩
variable[DecidableEq K]
def HM.set(M:HM K)(k:K)(p:Option (Nat×HK)):HM K:=fun j=>if j=k then p else M j
theorem HM.set_same(M:HM K)(k:K)(p:Option (Nat×HK)):M.set k p k=p:=if_pos rfl
theorem HM.set_other(M:HM K){k j:K}(p:Option (Nat×HK))(h:j≠k):M.set k p j=M j:=if_neg h
theorem HeapJ.turn{M:HM K}{h h':Mem}{Y Y':Nat→Prop}{w w':World}{k0:K}{b0:Nat}{x':HK}(hj:HeapJ M h Y w)(hle:Mem.le h h')(hn:∀b,b≠b0→Y b→∀o v,h' ⟨b,o,none⟩=some v→h ⟨b,o,none⟩=some v)
  (hw:∀b,b≠b0→Y b→w'.heap[b]?=w.heap[b]?) (hY:∀b,Y b→Y' b) (hb0:(∃x,M k0=some (b0,x))∨¬Y b0) (hY0:Y' b0) (hx:HKIs h' w' b0 x'):HeapJ (M.set k0 (some (b0,x'))) h' Y' w':=by
 have hne:∀k b x,k≠k0→M k=some (b,x)→b≠b0:=by
  rintro k b x hk e rfl
  rcases hb0 with⟨x0,e0⟩|hb0
  ·exact hk (hj.2 _ _ _ _ _ e e0)
  ·exact hb0 (hj.1 _ _ _ e).1
 refine⟨fun k b x e=>?_,fun k1 k2 b x y e1 e2=>?_⟩
 ·by_cases hk:k=k0
  ·subst hk
   rw[HM.set_same]at e
   cases e
   exact⟨hY0,hx⟩
  ·rw[HM.set_other _ _ hk]at e
   obtain⟨p1,p2⟩:=hj.1 k b x e
   have hb:=hne k b x hk e
   exact⟨hY b p1,p2.grow hle (hn b hb p1) (hw b hb p1)⟩
 ·by_cases hk1:k1=k0
  ·by_cases hk2:k2=k0
   ·rw[hk1,hk2]
   ·subst hk1
    rw[HM.set_same]at e1
    rw[HM.set_other _ _ hk2]at e2
    cases e1
    exact absurd rfl (hne k2 _ _ hk2 e2)
  ·rw[HM.set_other _ _ hk1]at e1
   by_cases hk2:k2=k0
   ·subst hk2
    rw[HM.set_same]at e2
    cases e2
    exact absurd rfl (hne k1 _ _ hk1 e1)
   ·rw[HM.set_other _ _ hk2]at e2
    exact hj.2 _ _ _ _ _ e1 e2
omit [DecidableEq K]
def GroIs(M:HM K)(k:K)(hd:Value)(sz:Nat)(rows:List (List X)):Prop:=(hd=.slice none 0 0∧rows=[]∧M k=none)∨∃b cap,hd=.slice (some ⟨b,0,none⟩) rows.length cap∧M k=some (b,.gro sz cap rows)
def RowIs(M:HM K)(k:K)(hd:Value)(sz:Nat)(rows:List (List X)):Prop:=(hd=.slice none 0 0∧rows=[]∧M k=none)∨∃b cap,hd=.slice (some ⟨b,0,none⟩) rows.length cap∧M k=some (b,.row sz cap rows)
theorem GroIs.data{M:HM K}{k:K}{hd:Value}{sz:Nat}{rows:List (List X)}(hg:GroIs M k hd sz rows){h:Mem}{Y:Nat→Prop}{w:World}(hj:HeapJ M h Y w):RepD h (.sl rows) hd:=by
 rcases hg with⟨rfl,rfl,_⟩|⟨b,cap,rfl,hM⟩
 ·exact .sl0 none 0 (Nat.zero_le _)
 ·obtain⟨_,_,⟨h1,h2,h3⟩,T,vs,h4,h5,h6,h7⟩:=hj.1 k b _ hM
  exact .sl rows b 0 cap sz (vs.toList.take (rows.length * sz)) h1 h2 h3 h6.length (fun i v e=>by rw[Nat.zero_add];exact h7 i v e) fun i x v e1 e2=>h6.get e1 e2
theorem GroIs.len{M:HM K}{k:K}{hd:Value}{sz:Nat}{rows:List (List X)}(hg:GroIs M k hd sz rows):∃a cap,hd=.slice a rows.length cap:=by
 rcases hg with⟨rfl,rfl,_⟩|⟨b,cap,rfl,hM⟩
 ·exact⟨none,0,rfl⟩
 ·exact⟨_,cap,rfl⟩
inductive Vw(M:HM K):X→X→Prop
 |same (x:X):Vw M x x
 |sl {k:K} {hd:Value} {sz:Nat} {rows:List (List X)} (h:GroIs M k hd sz rows):Vw M (.raw hd) (.sl rows)
theorem Vw.get{M:HM K}{x u:X}(hv:Vw M x u){h:Mem}{Y:Nat→Prop}{w:World}(hj:HeapJ M h Y w){v:Value}(r:RepD h x v):RepD h u v:=by
 cases hv with
 |same=>exact r
 |sl hg=>cases r;exact hg.data hj
theorem HeapJ.ld1{M:HM K}{k:K}{b o:Nat}{xs:List X}{x u:X}(hM:M k=some (b,.box xs))(hx:xs[o]?=some x)(hv:Vw M x u):∀h Y w,HeapJ M h Y w→∃v,w.cell? ⟨b,o,none⟩=some v∧RepT (pureC h) u v:=by
 intro h Y w hj
 obtain⟨_,h1,T,vs,h2,h3⟩:=hj.1 k b _ hM
 obtain⟨v,h4,h5⟩:=h3.get_right hx
 have h6:=hv.get hj h5
 refine⟨v,?_,RepD.toT (c:=pureC h) h6⟩
 rw[List.getElem?_take]at h4
 split at h4
 ·rw[Array.getElem?_toList]at h4
  simp[World.cell?,h2,h4]
 ·cases h4
theorem HeapJ.ldN{M:HM K}{k:K}{b o n:Nat}{xs us:List X}(hM:M k=some (b,.box xs))(hx:All2 (Vw M) ((xs.drop o).take n) us)(hn:us.length=n):∀h Y w,HeapJ M h Y w→∃vs:List Value,vs.length=n∧(∀(i:Nat)(v:Value),vs[i]?=some v→w.cell? ⟨b,o+i,none⟩=some v)∧All2 (RepC (pureC h)) us vs:=by
 intro h Y w hj
 obtain⟨_,h1,T,vs,h2,h3⟩:=hj.1 k b _ hM
 have h4:=(h3.drop o).take n
 refine⟨((vs.toList.take xs.length).drop o).take n,by rw[←h4.length,hx.length,hn],fun i v hi=>?_,?_⟩
 ·rw[List.getElem?_take]at hi
  split at hi
  ·rw[List.getElem?_drop,List.getElem?_take]at hi
   split at hi
   ·rw[Array.getElem?_toList]at hi
    simp[World.cell?,h2,hi]
   ·cases hi
  ·cases hi
 ·refine All2.of_get (hx.length.symm.trans h4.length) fun i u v hu hv=>?_
  have hi:i<((xs.drop o).take n).length:=by rw[hx.length];exact(List.getElem?_eq_some_iff.1 hu).1
  exact RepD.toC ((hx.get (List.getElem?_eq_getElem hi) hu).get hj (h4.get (List.getElem?_eq_getElem hi) hv))
end
theorem splice_take{α:Type}{l vals:List α}{o n L:Nat}(hn:vals.length=n)(h:o+n≤L)(hL:L≤l.length):(l.take o++(vals++l.drop (o+n))).take L=(l.take L).take o++(vals++(l.take L).drop (o+n)):=by
 obtain⟨A,B,rfl,rfl⟩:∃A B,l=A++B∧A.length=L:=⟨l.take L,l.drop L,(List.take_append_drop L l).symm,by rw[List.length_take];omega⟩
 have e1:(A++B).take o=A.take o:=List.take_append_of_le_length (by omega)
 have e2:(A++B).drop (o+n)=A.drop (o+n)++B:=List.drop_append_of_le_length h
 have e3:(A++B).take A.length=A:=List.take_left
 have e4:A.take o++(vals++(A.drop (o+n)++B))=(A.take o++(vals++A.drop (o+n)))++B:=by simp only[List.append_assoc]
 rw[e1,e2,e3,e4]
 refine List.take_left' ?_
 simp only[List.length_append,List.length_take,List.length_drop,hn]
 omega
def toH:X→X
 |.nils=>.raw (.slice none 0 0)
 |x=>x
def okH:X→Bool
 |.nils=>true
 |x=>okD x
theorem H_of{c:Ctx}{u:X}{v:Value}(h:RepC c u v)(hu:okH u=true):RepD c.h (toH u) v:=by
 cases u<;>first|exact D_of h hu|(have h':_=Value.slice none 0 0:=h;exact RepD.of_raw h' rfl)
theorem Hs_of{c:Ctx}:∀{us:List X}{vs:List Value},All2 (RepC c) us vs→us.all okH=true→All2 (RepD c.h) (us.map toH) vs
 |[],[],_,_=>trivial
 |_::_,_::_,h,ho=>by simp only[List.all_cons,Bool.and_eq_true]at ho;exact⟨H_of h.1 ho.1,Hs_of h.2 ho.2⟩
 |[],_::_,h,_=>h.elim
 |_::_,[],h,_=>h.elim
section
variable{E:Env}{all:Array Oper}{s r r1 r2 r3 rg:St}{d ty:Nat}{pos:String}{after:Array Edge}{guard:Option (Nat×Bool)}{x y z:Operand}{K:Type}[DecidableEq K]
theorem S.hstore{T n b o:Nat}{ag:Bool}{u:X}{xs xs':List X}{M:HM K}(k0:K)(ht:TyI E.P T ag n)(hg:Gd all s guard rg)(hx:OpS s x (.raw (.pointer (some ⟨b,o,none⟩))) r1)(hy:OpS s y u r2)(hl:look s 3000=some (.res (HeapJ M)))(hM:M k0=some (b,.box xs))
  (hu:okSt u=true) (hu2:(cellsX u).all okH=true) (hn:(cellsX u).length=n) (hfit:Nat.ble (o+n) xs.length=true) (hus:xs.take o++((cellsX u).map toH++xs.drop (o+n))=xs'):
  St1 E all ⟨none,.store T x y,ty,pos,after,guard⟩ s (rg++((r1++r2)++[(3000,.res (HeapJ M))])) [(3000,.res (HeapJ (M.set k0 (some (b,.box xs')))))] []:=
 St1.res hg rfl (hx.looks.app hy.looks) hl fun U c a w hb hr hj=>by
  subst hus
  rw[Nat.ble_eq]at hfit
  have h0:a.eval x=.pointer (some ⟨b,o,none⟩):=hx.rep (c:=c) (a:=a) (w:=w) fun p hp=>hr p (by simp[hp])
  obtain⟨hc,ho⟩:=cells_of (hy.rep (c:=c) (a:=a) (w:=w) fun p hp=>hr p (by simp[hp])) hu
  have hc2:=Hs_of hc hu2
  obtain⟨hY,h1,T',vs,h2,h3⟩:=hj.1 k0 b _ hM
  have hl3:=h3.length
  rw[List.length_take]at hl3
  have hcl:=hc.length
  have hvl:vs.toList.length=vs.size:=by simp
  have hcs:(a.eval y).cells.size=n:=by rw[←hn,hcl];simp
  have hnn:(a.eval y).cells.toList.length=n:=by rw[←hcl,hn]
  have hst:=run_storeCells_at E.P b o T' (a.eval y).cells.toList 0 vs w h2 (by simp;omega) ho
  simp only[Nat.add_zero]at hst
  refine⟨w.setRow b (vs.toList.take o++(a.eval y).cells.toList++vs.toList.drop (o+(a.eval y).cells.toList.length)).toArray,?_,post_set hb hY h1 rfl rfl rfl (by simp) fun j hj=>setRow_other w b j _ hj,Holds.mkRes (HeapJ.stable _) ?_⟩
  ·simp[execOp,h0,Instr.storeAt,Instr.sureAddr,storeVar,ht.size,hcs,hst]
  ·refine hj.turn (Mem.le_refl _) (fun _ _ _ _ _ e=>e) (fun j hj _=>setRow_other w b j _ hj) (fun _ e=>e) (.inl ⟨_,hM⟩) hY ⟨h1,T',_,setRow_heap w b vs _ T' _ h2,?_⟩
   rw[hnn]
   have hc2l:=hc2.length
   have hlen:(xs.take o++((cellsX u).map toH++xs.drop (o+n))).length=xs.length:=by simp only[List.length_append,List.length_take,List.length_drop,List.length_map,hn];omega
   simp only[List.append_assoc]
   rw[hlen,splice_take hnn hfit (by omega)]
   exact(h3.take o).append (hc2.append (h3.drop (o+n)))
end
end Go.Ab
namespace Go.Ab
open Go.RowKit
theorem stD_cong:∀{L1 L2:List Lab}{D:Nat→Bool}(s:St)(_:L1.length=L2.length)(_:∀j,D j=true→L1[j]?=L2[j]?),stD L1 D s=stD L2 D s∧∀U,uD L1 D U=uD L2 D U
 |[],[],_,_,_,_=>⟨rfl,fun _=>rfl⟩
 |b1::L1,b2::L2,D,s,hl,hj=>by
  have ih:=fun s=>stD_cong (L1:=L1) (L2:=L2) (D:=fun j=>D (j+1)) s (by simpa using hl) (fun j hd=>by simpa using hj (j+1) hd)
  cases hd:D 0 with
  |false=>exact⟨by rw[stD,stD,hd];exact(ih _).1,fun U=>by rw[uD,uD,hd];exact(ih s).2 _⟩
  |true=>
   have e:b1=b2:=by simpa using hj 0 hd
   subst e
   exact⟨by rw[stD,stD];exact(ih _).1,fun U=>by rw[uD,uD];exact(ih s).2 _⟩
 |[],_::_,_,_,hl,_=>by simp at hl
 |_::_,[],_,_,hl,_=>by simp at hl
section
variable{E:Env}{l:List Oper}{U U':List Nat}{s:St}
theorem draw_X2{ι:Type}(q0:ι){x:Nat}{ox:Oper}{rd:St}{wr:ι→St}{al:List Nat}{Lq:ι→List Lab}{sq:ι→St}(h:∀q,LxS E l.toArray (some x) l U s (Lq q) U' (sq q))(hc:∀q,drawOk l (Lq q)=true)
  (hind:∀q q' j,j≠x→j<l.length→((clos l []).getD j 0).testBit x=false→(Lq q)[j]?=(Lq q')[j]?) (hx:∀q,(Lq q)[x]?=some ⟨rd,wr q,al⟩) (hox:l[x]?=some ox) (hX:StepX E l.toArray ox rd wr al)
  (Q:Exit→Act→World→Prop) (hQ:∀q a w,Good E U' (sq q) a w→Q .normal a w):
  ∀(fuel:Nat)(listed:Array Bool)(a:Act)(w:World),listed.size=l.length→unl listed.toList≤fuel→Closed l (fun j=>listed.getD j false)→listed.getD x false=false→
   Good E (uD (Lq q0) (fun j=>listed.getD j false) U) (stD (Lq q0) (fun j=>listed.getD j false) s) a w→wpAnyIn E.F 0 E.P .any l.toArray Q fuel listed a w:=by
 have hdown:downOk 0 l=true:=by
  have:=hc q0
  simp only[drawOk,Bool.and_eq_true]at this
  exact this.1
 have hxl:x<l.length:=(List.getElem?_eq_some_iff.1 hox).1
 have fin:∀(listed:Array Bool),listed.size=l.length→listed.getD x false=false→Region.ready .any l.toArray listed≠[]:=by
  intro listed hsz hj hr
  have:=ready_nil hdown hsz hr x hxl
  rw[hj]at this;cases this
 intro fuel
 induction fuel with
 |zero=>
  intro listed a w hsz hun _ hj _
  exact absurd (fuel_out hsz hun) (fin listed hsz hj)
 |succ fuel ih=>
  intro listed a w hsz hun hcl hj hg
  refine⟨fun hr=>absurd hr (fin listed hsz hj),fun i hi=>?_⟩
  obtain⟨h0,o,ho,hedges⟩:=mem_ready.1 hi
  have hil:i<l.length:=by simpa using (Array.getElem?_eq_some_iff.1 ho).1
  have hio:l[i]?=some o:=by simpa using ho
  have hisz:i<listed.size:=by omega
  obtain⟨c,hbase,hholds⟩:=hg
  have hsame:∀q,stD (Lq q) (fun j=>listed.getD j false) s=stD (Lq q0) (fun j=>listed.getD j false) s∧uD (Lq q) (fun j=>listed.getD j false) U=uD (Lq q0) (fun j=>listed.getD j false) U:=fun q=>by
   have:=stD_cong (D:=fun j=>listed.getD j false) (L1:=Lq q) (L2:=Lq q0) s (by rw[(h q).length,(h q0).length]) (fun j hjd=>by
    have hjl:j<l.length:=by
     rcases Nat.lt_or_ge j l.length with h1|h1
     ·exact h1
     ·simp[Array.getD,show¬j<listed.size by omega]at hjd
    have hjx:j≠x:=fun e=>by rw[e]at hjd;simp only[hj]at hjd;cases hjd
    refine hind q q0 j hjx hjl ?_
    cases hb:((clos l []).getD j 0).testBit x with
    |false=>rfl
    |true=>
     have hD:=clos_sound hcl l [] [] rfl rfl (by simp) j x hb hjl (fun o' ho' e he hb=>hcl j o' ho' hjd e he hb)
     simp only[hj]at hD;cases hD)
   exact⟨this.1,this.2 U⟩
  by_cases hix:i=x
  ·subst hix
   rw[hio]at hox
   cases hox
   obtain⟨p1,p2,_⟩:=draw_step (h q0) (hc q0) hsz hcl hbase hholds hi hio (hx q0)
   refine opIn_wpOpIn ho (hX _ c a w hbase p1 p2 _ Q ?_)
   intro q c' a' w' hb' hwr hfr
   obtain⟨_,_,p3⟩:=draw_step (h q) (hc q) hsz hcl (by rw[(hsame q).2];exact hbase) (fun key y hy=>hholds key y (by rw[←(hsame q).1];exact hy)) hi hio (hx q)
   obtain⟨q1,q2,q3⟩:=p3 c' a' w' (by rw[(hsame q).2];exact hb') hwr hfr
   refine draw_anyS (h q) (hc q) Q (hQ q) fuel _ a' w' (by simpa using hsz) (by omega) q1 (fun y hy=>?_) q3
   cases hy
   simp[hisz]
  ·have hbi:(Lq q0)[i]?=some ((Lq q0)[i]'(by have:=(h q0).length;omega)):=List.getElem?_eq_getElem _
   obtain⟨o',ho',hstep,_,_⟩:=(h q0).at' i _ hbi
   rw[hio]at ho';cases ho'
   obtain⟨p1,p2,p3⟩:=draw_step (h q0) (hc q0) hsz hcl hbase hholds hi hio hbi
   refine opIn_wpOpIn ho (hstep (fun e=>hix (by cases e;rfl)) _ c a w hbase p1 p2 _ Q ?_)
   intro c' a' w' hb' _ hwr hfr
   obtain⟨q1,q2,q3⟩:=p3 c' a' w' hb' hwr hfr
   refine ih _ a' w' (by simpa using hsz) (by omega) q1 ?_ q3
   rw[getD_set_ne false hix];exact hj
theorem OK.regionDrawX2{ι:Type}{id:Nat}{Q:Exit→List Nat→St→Prop}(hm:E.P.follows .mixedOrders=true)(q0:ι){x:Nat}{ox:Oper}{rd:St}{wr:ι→St}{al:List Nat}{Lq:ι→List Lab}{sq:ι→St}(h:∀q,LxX E l.toArray (some x) l U s (Lq q) U' (sq q))
  (hX:StepX E l.toArray ox rd wr al) (hc:∀q,drawOk l (Lq q)=true) (hind:∀q q' j,j≠x→j<l.length→((clos l []).getD j 0).testBit x=false→(Lq q)[j]?=(Lq q')[j]?) (hx:∀q,(Lq q)[x]?=some ⟨rd,wr q,al⟩) (hox:l[x]?=some ox)
  (hQ:∀q,Q .normal U' (sq q)):OK E (.region id l.toArray true) Q U s:=by
 intro a w hg
 refine wpIn_region_draw fun t=>?_
 simp only[Region.schedule,hm,Bool.true_or,if_true]
 refine wpAnyIn_sound _ t _ a _ ?_
 refine draw_X2 q0 (fun q=>(h q).s) hc hind hx hox hX _ (fun q a w hg=>⟨U',sq q,hg,hQ q⟩) l.toArray.size (Array.replicate l.toArray.size false) a w.drew (by simp) ?_ ?_ ?_ ?_
 ·have:∀n:Nat,unl (List.replicate n false)=n:=by intro n;simp[unl]
  simp[this]
 ·intro i o _ hd
  exfalso
  have h0:false=true:=(repl_getD l.toArray.size i).symm.trans hd
  cases h0
 ·exact repl_getD _ _
 ·have:(fun j=>(Array.replicate l.toArray.size false).getD j false)=(fun _:Nat=>false):=by
   funext j
   exact repl_getD _ j
  rw[this,stD_false,uD_false]
  exact hg.drew
end
end Go.Ab
namespace Go.Ab
open Go.RowKit
section
variable{P:Program}(w:World)
theorem run_append_src2(base t u ty e e0:Nat)(du:TypeDesc)(i:TypeInfo)(z:Value)(size bytes:Nat)(ht:P.underlying t=some (.slice e))(hu:P.underlying u=some du)(hdu:srcD du)
  (hi:P.info? e=some i) (hz:i.zero=some z) (hsize:i.size=size) (hby:i.bytes=bytes) (hzs:z.cells.size=size)
  (v:Value) (n:Nat) (xs:List Value) (hown:w.ownsRow base e0 size v n xs) (x:Value) (m:Nat) (news:List Value) (hlen:∀w,(Builtin.lenOf x).run P w=.ok m w) (hl:news.length=m * size)
  (hf:∀w':World,(∀p,w'.cell? p=w.cell? p)→(Builtin.firstCells size m x).run P w'=.ok news.toArray w') (h1:∀q∈news,q.oneCell'=true)
  (h63:n+m≤maxLen) (hbytes:(n+m) * bytes≤140737488355328) (hbase:base≤w.heap.size):
  ∃v' w' e1,(Builtin.append_ #[t,u] ty #[v,x]).run P w=.ok v' w'∧w'.ownsRow base e1 size v' (n+m) (xs++news)∧w.grownBy w' v.ownBlock∧(v'.ownBlock=v.ownBlock∨(v'.ownBlock=some w.heap.size∧w.heap.size<w'.heap.size∧∀k,k<w.heap.size→w'.heap[k]?=w.heap[k]?))∧(m=0→v'=v)∧∃a l c,v'=.slice a l c:=by
 subst hsize
 subst hby
 have hsmall:n+m≤9223372036854775807:=by simp only[maxLen]at h63;omega
 have hlen2:(xs++news).length=(n+m) * i.size:=by rw[List.length_append,hown.1,hl,Nat.add_mul]
 have grown:∀(old:Nat),(w.drew.alloc (.cells (xs.toArray++news.toArray++Builtin.zeroCells z.cells (grownCap w (n+m) old e - (n+m))) e)).ownsRow base e i.size
   (.slice (some ⟨w.heap.size,0,none⟩) (n+m) (grownCap w (n+m) old e)) (n+m) (xs++news):=by
  intro old
  have hge:=grownCap_ge w (n+m) old e
  have hcm:grownCap w (n+m) old e≤maxLen:=grownCap_le_maxLen w (n+m) old e h63
  refine⟨hlen2,.inr ⟨w.heap.size,_,_,rfl,hbase,heap_alloc_new w.drew _,hge,hcm,?_,?_⟩⟩
  ·simp only[Array.size_append,List.size_toArray,size_zeroCells,hzs,hown.1,hl,←Nat.add_mul]
   congr 1
   omega
  ·simp only[Array.toList_append,List.append_assoc]
   rw[←List.append_assoc,←hlen2]
   exact List.take_left
 have gby:∀(o:Obj)(row:Option Nat),w.grownBy (w.drew.alloc o) row:=fun o row=>⟨rfl,rfl,rfl,by simp,fun k hk _=>Below.heap_alloc w.drew o k hk⟩
 rcases hown.2 with⟨rfl,rfl⟩|⟨g,cap,cur,rfl,hbg,hg,hnc,hcm,hcs,htake⟩
 ·have hx:xs=[]:=List.eq_nil_of_length_eq_zero (by simpa using hown.1)
  subst hx
  by_cases hm:m=0
  ·subst hm
   have hn:news=[]:=List.eq_nil_of_length_eq_zero (by simpa using hl)
   subst hn
   refine⟨.slice none 0 0,w,e,?_,World.ownsRow_nil w base e i.size,⟨rfl,rfl,rfl,Nat.le_refl _,fun _ _ _=>rfl⟩,.inl rfl,fun _=>rfl,none,0,0,rfl⟩
   have:=hf w fun _=>rfl
   rcases hdu with⟨e',rfl⟩|rfl<;>simp[Builtin.append_,run_underlying ht,run_underlying hu,sizeOf,typeInfo,hi,hlen,this]
  ·have h63':¬(9223372036854775807<(m:Int)):=by omega
   have h48':¬(281474976710656<Builtin.nextslicecap m 0 * i.bytes):=by rw[nextslicecap_zero (by omega)];have hb:=hbytes;simp only[Nat.zero_add]at hb;omega
   have hgr:=grown 0
   simp only[Nat.zero_add,List.nil_append,Array.empty_append]at hgr⊢
   refine⟨.slice (some ⟨w.heap.size,0,none⟩) m (grownCap w m 0 e),w.drew.alloc (.cells (news.toArray++Builtin.zeroCells z.cells (grownCap w m 0 e - m)) e),e,?_,hgr,gby _ _,.inr ⟨rfl,by simp,fun k hk=>Below.heap_alloc w.drew _ k hk⟩,fun h=>absurd h hm,_,_,_,rfl⟩
   have hff:=hf w.drew fun _=>rfl
   rcases hdu with⟨e',rfl⟩|rfl<;>simp[Builtin.append_,run_underlying ht,run_underlying hu,sizeOf,typeInfo,zeroValue,hi,hz,hlen,hm,h63',h48',Question.forced,run_firstCells_none,hff,newRow,grownCap]
 ·by_cases hroom:n+m≤cap
  ·have hfit:n * i.size+news.length≤cur.size:=by rw[hl,hcs,←Nat.add_mul];exact Nat.mul_le_mul_right _ hroom
   have hff:=hf w fun _=>rfl
   have hst:=run_storeCells_at P g (n * i.size) e0 news 0 cur w hg (by simpa using hfit) h1
   simp only[Nat.add_zero]at hst
   refine⟨.slice (some ⟨g,0,none⟩) (n+m) cap,w.setRow g (cur.toList.take (n * i.size)++news++cur.toList.drop (n * i.size+news.length)).toArray,e0,?_,
    ⟨hlen2,.inr ⟨g,cap,_,rfl,hbg,setRow_heap w g cur _ e0 _ hg,hroom,hcm,?_,?_⟩⟩,⟨rfl,rfl,rfl,by simp,fun k _ hk=>setRow_other w g k _ (fun e=>hk (by simp[Value.ownBlock,e]))⟩,.inl rfl,(fun h=>by subst h;rfl),_,_,_,rfl⟩
   ·rcases hdu with⟨e',rfl⟩|rfl<;>simp[Builtin.append_,run_underlying ht,run_underlying hu,sizeOf,typeInfo,hi,hlen,hroom,hff,Addr.add_lit,hst]
   ·simp only[List.size_toArray,List.length_append,List.length_take,List.length_drop,Array.length_toList]
    omega
   ·rw[htake,←hlen2]
    exact List.take_left
  ·have holds:∀j u,xs[j]?=some u→w.cell? ((⟨g,0,none⟩:Addr).add j)=some u:=hown.cells (g:=g) rfl
   have hn:¬(n+m≤cap):=hroom
   have h63':¬(9223372036854775807<((n:Int)+(m:Int))):=by omega
   have h48:=growslice_fits (need:=n+m) (old:=cap) (bytes:=i.bytes) (by omega) hbytes
   have h48':¬(281474976710656<Builtin.nextslicecap (n+m) cap * i.bytes):=by omega
   have hff:=hf w.drew fun _=>rfl
   have hfo:=run_firstCells_some (P:=P) w.drew i.size n ⟨g,0,none⟩ n cap xs hown.1 (by simpa using holds)
   refine⟨_,_,e,?_,grown cap,gby _ _,.inr ⟨rfl,by simp,fun k hk=>Below.heap_alloc w.drew _ k hk⟩,(fun h=>by omega),_,_,_,rfl⟩
   rcases hdu with⟨e',rfl⟩|rfl<;>(simp[Builtin.append_,run_underlying ht,run_underlying hu,sizeOf,typeInfo,zeroValue,hi,hz,hlen,hn,h63',h48',Question.forced,hff,hfo,newRow,grownCap];congr 2;apply Array.ext';simp[List.append_assoc])
end
section
variable{P:Program}{t u ty e sz bytes m:Nat}{du:TypeDesc}{h:Mem}{Y:Nat→Prop}{w:World}
theorem app_run(hA:ApI P t e sz bytes)(hu:P.underlying u=some du)(hdu:srcD du){hd:Value}{n:Nat}{T:TypeId}{xs:List Value}(hown:w.ownsRow 0 T sz hd n xs){y:Value}{news:List Value}(h1:∀q∈news,q.oneCell'=true)(hl:news.length=m * sz)(n2:∀w,(Builtin.lenOf y).run P w=.ok m w)
  (n4:∀w':World,(∀p,w'.cell? p=w.cell? p)→(Builtin.firstCells sz m y).run P w'=.ok news.toArray w') (hm0:0<m) (hbd:(n+m) * bytes≤140737488355328) (hbm:n+m≤maxLen):
  ∃b cap cur e1 w',(Builtin.append_ #[t,u] ty #[hd,y]).run P w=.ok (.slice (some ⟨b,0,none⟩) (n+m) cap) w'∧w'.heap[b]?=some (.cells cur e1 (0,0))∧n+m≤cap∧cap≤maxLen∧cur.size=cap * sz∧cur.toList.take ((n+m) * sz)=xs++news∧
   (w'.os=w.os∧w'.tape=w.tape∧w'.output=w.output∧w.heap.size≤w'.heap.size)∧((hd.ownBlock=some b∧∀k,k≠b→k<w.heap.size→w'.heap[k]?=w.heap[k]?)∨(b=w.heap.size∧∀k,k<w.heap.size→w'.heap[k]?=w.heap[k]?)):=by
 obtain⟨i,zv,i1,i2,i3,i4,i5⟩:=hA.ex
 obtain⟨v',w',e1,q1,q2,q3,q4,_,_⟩:=run_append_src2 (P:=P) w 0 t u ty e T du i zv sz bytes hA.und hu hdu i1 i2 i3 i4 i5 hd n xs hown y m news n2 hl n4 h1 hbm hbd (Nat.zero_le _)
 rcases q2.2 with⟨_,h0⟩|⟨b,cap,cur,rfl,_,f1,f2,f3,f4,f5⟩
 ·omega
 ·refine⟨b,cap,cur,e1,w',q1,f1,f2,f3,f4,f5,⟨q3.os,q3.tape,q3.output,q3.size⟩,?_⟩
  rcases q4 with q4|⟨q4,_,q5⟩
  ·have hb:hd.ownBlock=some b:=q4.symm
   exact .inl ⟨hb,fun k hk hlt=>q3.block k hlt (by rw[hb];intro e;exact hk (Option.some.inj e))⟩
  ·have hb:b=w.heap.size:=Option.some.inj q4
   exact .inr ⟨hb,q5⟩
theorem cell_take{cur:Array Value}{T:TypeId}{b n:Nat}{xs:List Value}(hg:w.heap[b]?=some (.cells cur T (0,0)))(ht:cur.toList.take n=xs){i:Nat}{v:Value}(hv:xs[i]?=some v):w.cell? ⟨b,i,none⟩=some v:=by
 subst ht
 rw[List.getElem?_take]at hv
 split at hv
 ·rw[Array.getElem?_toList]at hv
  simp[World.cell?,hg,hv]
 ·cases hv
theorem at_spot{p:Addr}{b:Nat}(h1:p.block=b)(h2:p.spot=none):p=⟨b,p.off,none⟩:=by cases p;simp at h1 h2;subst h1 h2;rfl
variable{K:Type}[DecidableEq K]
theorem HeapJ.app(hA:ApI P t e sz bytes)(hu:P.underlying u=some du)(hdu:srcD du){M:HM K}{k0:K}{hd:Value}{rows rows2:List (List X)}(hj:HeapJ M h Y w)(hw:∀p v,h p=some v→w.cell? p=some v)(hY:∀b,Y b→b<w.heap.size)(hgr:GroIs M k0 hd sz rows){y:Value}{news:List Value}
  (n1:All2 (RepD h) rows2.flatten news) (n2:∀w,(Builtin.lenOf y).run P w=.ok m w) (n4:∀w':World,(∀p,w'.cell? p=w.cell? p)→(Builtin.firstCells sz m y).run P w'=.ok news.toArray w') (hr2:∀q∈rows2,q.length=sz) (hm:rows2.length=m) (hm0:0<m) (hbd:(rows.length+m) * bytes≤140737488355328) (hbm:rows.length+m≤maxLen):
  ∃b cap w' h',(Builtin.append_ #[t,u] ty #[hd,y]).run P w=.ok (.slice (some ⟨b,0,none⟩) (rows.length+m) cap) w'∧PostJ h Y w h' (fun x=>Y x∨x=b) w'∧HeapJ (M.set k0 (some (b,.gro sz cap (rows++rows2)))) h' (fun x=>Y x∨x=b) w':=by
 obtain⟨T,xs,hown,hxs,hwid,hblk⟩:∃T xs,w.ownsRow 0 T sz hd rows.length xs∧All2 (RepD h) rows.flatten xs∧(∀r∈rows,r.length=sz)∧∀b,hd.ownBlock=some b→Y b∧(∃x,M k0=some (b,x))∧(∀i,rows.length * sz≤i→h ⟨b,i,none⟩=none)∧∀(i:Nat)(v:Value),xs[i]?=some v→h ⟨b,i,none⟩=some v:=by
  rcases hgr with⟨rfl,rfl,_⟩|⟨b,cap,rfl,hM⟩
  ·exact⟨0,[],⟨by simp,.inl ⟨rfl,rfl⟩⟩,trivial,(fun _ h=>by cases h),fun b e=>by cases e⟩
  ·obtain⟨hYb,g1,⟨g2,g3,g4⟩,T,vs,g5,g6,g7,g8⟩:=hj.1 k0 b _ hM
   refine⟨T,vs.toList.take (rows.length * sz),⟨?_,.inr ⟨b,cap,vs,rfl,Nat.zero_le _,g5,g2,g3,g6,rfl⟩⟩,g7,g4,fun b' e=>?_⟩
   ·rw[←g7.length,flatten_length g4]
   ·cases e;exact⟨hYb,⟨_,hM⟩,g1,g8⟩
 have hfl2:news.length=m * sz:=by rw[←n1.length,flatten_length hr2,hm]
 have hxl:=hown.1
 obtain⟨b,cap,cur,e1,w',q1,q2,q3,q4,q5,q6,⟨o1,o2,o3,o4⟩,q7⟩:=app_run hA hu hdu hown (oneCells_D n1) hfl2 n2 n4 hm0 hbd hbm
 have hcell:∀(i:Nat)(v:Value),(xs++news)[i]?=some v→w'.cell? ⟨b,i,none⟩=some v:=fun i v hv=>cell_take q2 q6 hv
 have hnb:∀i,rows.length * sz≤i→h ⟨b,i,none⟩=none:=by
  intro i hi
  rcases q7 with⟨f1,_⟩|⟨rfl,_⟩
  ·exact(hblk b f1).2.2.1 i hi
  ·cases hh:h ⟨w.heap.size,i,none⟩with
   |none=>rfl
   |some v=>have:=block_lt_of_cell (hw _ _ hh);simp at this
 have hpre:∀(i:Nat)(v:Value),h ⟨b,i,none⟩=some v→xs[i]?=some v:=by
  intro i v hv
  rcases q7 with⟨f1,_⟩|⟨rfl,_⟩
  ·have hlt:i<xs.length:=by
    rcases Nat.lt_or_ge i xs.length with h1|h1
    ·exact h1
    ·rw[hnb i (by omega)]at hv;cases hv
   have:=(hblk b f1).2.2.2 i _ (List.getElem?_eq_getElem hlt)
   rw[hv]at this
   rw[List.getElem?_eq_getElem hlt];exact this.symm
  ·have:=block_lt_of_cell (hw _ _ hv);simp at this
 have hkeep:∀k,k≠b→k<w.heap.size→w'.heap[k]?=w.heap[k]?:=fun k hk hlt=>q7.elim (fun f=>f.2 k hk hlt) fun f=>f.2 k hlt
 obtain⟨h',hh'⟩:∃h':Mem,h'=fun p=>if p.block=b∧p.spot=none∧p.off<(rows.length+m) * sz then w'.cell? p else h p:=⟨_,rfl⟩
 have hin:∀p v,h' p=some v→h p=some v∨(p.block=b∧w'.cell? p=some v):=by
  intro p v hp
  rw[hh']at hp
  dsimp only at hp
  split at hp
  ·rename_i hc;exact .inr ⟨hc.1,hp⟩
  ·exact .inl hp
 have hle:Mem.le h h':=by
  intro p v hp
  rw[hh']
  dsimp only
  split
  ·rename_i hc
   rw[at_spot hc.1 hc.2.1]at hp⊢
   have h1:=hpre _ _ hp
   exact hcell _ _ (by rw[List.getElem?_append_left (List.getElem?_eq_some_iff.1 h1).1];exact h1)
  ·exact hp
 have hw':∀p v,h' p=some v→w'.cell? p=some v:=by
  intro p v hp
  rcases hin p v hp with h1|h1
  ·have h2:=hw p v h1
   by_cases hb:p.block=b
   ·have hsp:=adr_spot h2
    rw[hb]at hsp
    rw[hsp]at h1⊢
    have h3:=hpre _ _ h1
    exact hcell _ _ (by rw[List.getElem?_append_left (List.getElem?_eq_some_iff.1 h3).1];exact h3)
   ·rw[World.cell?_of_block (hkeep _ hb (block_lt_of_cell h2))];exact h2
  ·exact h1.2
 have hbb:Y b∨w.heap.size≤b:=q7.elim (fun f=>.inl (hblk b f.1).1) fun f=>.inr (by omega)
 refine⟨b,cap,w',h',q1,⟨⟨o1,o2,o3,o4,fun k hk hy=>?_⟩,hle,fun p v hp=>?_,hw',fun k hy=>?_,fun k hy hlt=>?_⟩,?_⟩
 ·refine hkeep k (fun e=>?_) hk
  subst e
  rcases hbb with h1|h1
  ·exact hy h1
  ·omega
 ·rcases hin p v hp with h1|h1
  ·exact .inl h1
  ·rw[h1.1];exact .inr hbb.symm
 ·rcases hy with hy|rfl
  ·have:=hY k hy;omega
  ·exact(Array.getElem?_eq_some_iff.1 q2).1
 ·rcases hy with hy|rfl
  ·exact hy
  ·rcases hbb with h1|h1
   ·exact h1
   ·omega
 ·refine hj.turn hle (fun k hk hy o v hp=>?_) (fun k hk hy=>hkeep k hk (hY k hy)) (fun _ e=>.inl e) ?_ (.inr rfl) ⟨fun i hi=>?_,⟨by rw[List.length_append,hm];exact q3,q4,fun r hr=>(List.mem_append.1 hr).elim (hwid r) (hr2 r)⟩,e1,cur,q2,q5,?_,?_⟩
  ·rcases hin _ v hp with h1|h1
   ·exact h1
   ·exact absurd h1.1 hk
  ·rcases q7 with⟨f1,_⟩|⟨rfl,_⟩
   ·exact .inl (hblk b f1).2.1
   ·exact .inr fun hy=>by have:=hY _ hy;omega
  ·rw[List.length_append,hm]at hi
   rw[hh']
   dsimp only
   rw[if_neg (by omega)]
   exact hnb i (by have:=Nat.mul_le_mul_right sz (Nat.le_add_right rows.length m);omega)
  ·rw[List.length_append,hm,q6,List.flatten_append]
   exact(hxs.append n1).mono fun _ _=>RepD.mono hle
  ·intro i v hv
   rw[List.length_append,hm,q6]at hv
   have hlt:i<(rows.length+m) * sz:=by
    have:=(List.getElem?_eq_some_iff.1 hv).1
    rw[List.length_append,hxl,hfl2,←Nat.add_mul]at this
    exact this
   rw[hh']
   dsimp only
   rw[if_pos ⟨rfl,rfl,hlt⟩]
   exact hcell i v hv
theorem HeapJ.appR(hA:ApI P t e sz bytes)(hu:P.underlying u=some du)(hdu:srcD du){M:HM K}{k0:K}{hd:Value}{rows rows2:List (List X)}(hj:HeapJ M h Y w)(hw:∀p v,h p=some v→w.cell? p=some v)(hY:∀b,Y b→b<w.heap.size)(hgr:RowIs M k0 hd sz rows){y:Value}{news:List Value}
  (n1:All2 (RepD h) rows2.flatten news) (n2:∀w,(Builtin.lenOf y).run P w=.ok m w) (n4:∀w':World,(∀p,w'.cell? p=w.cell? p)→(Builtin.firstCells sz m y).run P w'=.ok news.toArray w') (hr2:∀q∈rows2,q.length=sz) (hm:rows2.length=m) (hm0:0<m) (hbd:(rows.length+m) * bytes≤140737488355328) (hbm:rows.length+m≤maxLen):
  ∃b cap w',(Builtin.append_ #[t,u] ty #[hd,y]).run P w=.ok (.slice (some ⟨b,0,none⟩) (rows.length+m) cap) w'∧PostJ h Y w h (fun x=>Y x∨x=b) w'∧HeapJ (M.set k0 (some (b,.row sz cap (rows++rows2)))) h (fun x=>Y x∨x=b) w':=by
 obtain⟨T,xs,hown,hxs,hwid,hblk⟩:∃T xs,w.ownsRow 0 T sz hd rows.length xs∧All2 (RepD h) rows.flatten xs∧(∀r∈rows,r.length=sz)∧∀b,hd.ownBlock=some b→Y b∧(∃x,M k0=some (b,x))∧(∀i,h ⟨b,i,none⟩=none):=by
  rcases hgr with⟨rfl,rfl,_⟩|⟨b,cap,rfl,hM⟩
  ·exact⟨0,[],⟨by simp,.inl ⟨rfl,rfl⟩⟩,trivial,(fun _ h=>by cases h),fun b e=>by cases e⟩
  ·obtain⟨hYb,g1,⟨g2,g3,g4⟩,T,vs,g5,g6,g7⟩:=hj.1 k0 b _ hM
   refine⟨T,vs.toList.take (rows.length * sz),⟨?_,.inr ⟨b,cap,vs,rfl,Nat.zero_le _,g5,g2,g3,g6,rfl⟩⟩,g7,g4,fun b' e=>?_⟩
   ·rw[←g7.length,flatten_length g4]
   ·cases e;exact⟨hYb,⟨_,hM⟩,g1⟩
 have hfl2:news.length=m * sz:=by rw[←n1.length,flatten_length hr2,hm]
 obtain⟨b,cap,cur,e1,w',q1,q2,q3,q4,q5,q6,⟨o1,o2,o3,o4⟩,q7⟩:=app_run hA hu hdu hown (oneCells_D n1) hfl2 n2 n4 hm0 hbd hbm
 have hnb:∀i,h ⟨b,i,none⟩=none:=by
  intro i
  rcases q7 with⟨f1,_⟩|⟨rfl,_⟩
  ·exact(hblk b f1).2.2 i
  ·cases hh:h ⟨w.heap.size,i,none⟩with
   |none=>rfl
   |some v=>have:=block_lt_of_cell (hw _ _ hh);simp at this
 have hkeep:∀k,k≠b→k<w.heap.size→w'.heap[k]?=w.heap[k]?:=fun k hk hlt=>q7.elim (fun f=>f.2 k hk hlt) fun f=>f.2 k hlt
 have hbb:Y b∨w.heap.size≤b:=q7.elim (fun f=>.inl (hblk b f.1).1) fun f=>.inr (by omega)
 refine⟨b,cap,w',q1,⟨⟨o1,o2,o3,o4,fun k hk hy=>?_⟩,Mem.le_refl _,fun p v hp=>.inl hp,fun p v hp=>?_,fun k hy=>?_,fun k hy hlt=>?_⟩,?_⟩
 ·refine hkeep k (fun e=>?_) hk
  subst e
  rcases hbb with h1|h1
  ·exact hy h1
  ·omega
 ·have h2:=hw p v hp
  have hb:p.block≠b:=fun e=>by
   have h3:=hnb p.off
   rw[←e,←adr_spot h2,hp]at h3;cases h3
  rw[World.cell?_of_block (hkeep _ hb (block_lt_of_cell h2))];exact h2
 ·rcases hy with hy|rfl
  ·have:=hY k hy;omega
  ·exact(Array.getElem?_eq_some_iff.1 q2).1
 ·rcases hy with hy|rfl
  ·exact hy
  ·rcases hbb with h1|h1
   ·exact h1
   ·omega
 ·refine hj.turn (Mem.le_refl _) (fun _ _ _ _ _ e=>e) (fun k hk hy=>hkeep k hk (hY k hy)) (fun _ e=>.inl e) ?_ (.inr rfl) ⟨hnb,⟨by rw[List.length_append,hm];exact q3,q4,fun r hr=>(List.mem_append.1 hr).elim (hwid r) (hr2 r)⟩,e1,cur,q2,q5,?_⟩
  ·rcases q7 with⟨f1,_⟩|⟨rfl,_⟩
   ·exact .inl (hblk b f1).2.1
   ·exact .inr fun hy=>by have:=hY _ hy;omega
  ·rw[List.length_append,hm,q6,List.flatten_append]
   exact hxs.append n1
end
end Go.Ab
