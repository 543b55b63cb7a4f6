import Derived.Lib.ItoaNum
import Derived.Test.YtpbalelbenmmbaaGreatDoorFd
namespace Go.Ab
open Go.RowKit
def Ct(P:Program)(f:Nat)(args:List X)(res:X):Prop:=
 ∀(h:Mem)(w:World)(vs:List Value),(∀p v,h p=some v→w.cell? p=some v)→All2 (RepV (pureC h)) args vs→
  Calls P f vs.toArray w fun e w'=>∃v h',e=.returned v∧Below w.heap.size w w'∧Mem.le h h'∧(∀p v,h' p=some v→h p=some v∨w.heap.size≤p.block)∧
   (∀p v,h' p=some v→w'.cell? p=some v)∧RepT (pureC h') res v
def okD:X→Bool
 |.int _ _|.bool _|.str _|.sl _|.eptr _=>true
 |.raw v=>v.oneCell'
 |_=>false
theorem RepD.of_raw{h:Mem}{u v:Value}(e:v=u)(hu:u.oneCell'=true):RepD h (.raw u) v:=by subst e;exact .raw _ hu
theorem D_of{c:Ctx}{u:X}{v:Value}(h:RepC c u v)(hu:okD u=true):RepD c.h u v:=by
 cases u<;>first|exact h|exact RepD.of_raw h hu|cases hu
theorem Ds_of{c:Ctx}:∀{us:List X}{vs:List Value},All2 (RepC c) us vs→us.all okD=true→All2 (RepD c.h) us vs
 |[],[],_,_=>trivial
 |_::_,_::_,h,ho=>by simp only[List.all_cons,Bool.and_eq_true]at ho;exact⟨D_of h.1 ho.1,Ds_of h.2 ho.2⟩
 |[],_::_,h,_=>h.elim
 |_::_,[],h,_=>h.elim
inductive ResC(fs:List Nat)(s:St):X→X→Prop
 |same {x:X}:okC [] x=true→ResC fs s x x
 |own {k n sz:Nat} {rows:List (List X)} (hk:Nat.blt k 1000=true) (hl:look s (2000+k)=some (.arr sz rows)) (hn:rows.length=n) (hk9:fs.contains k=false:=by rfl):ResC fs s (.own k n) (.sl rows)
 |nils:ResC fs s .nils (.sl [])
 |ptr {k off:Nat} {cells cells':List X} (hk:Nat.blt k 1000=true) (hl:look s (1000+k)=some (.box cells)) (hD:cells.all okD=true) (hd:cells.drop off=cells') (hk9:fs.contains k=false:=by rfl):ResC fs s (.ptr k off) (.eptr cells')
def isFn:X→Bool
 |.fn _ _=>true
 |_=>false
inductive ResV(fs:List Nat)(s:St):X→X→Prop
 |c {x y:X}:ResC fs s x y→isAT x=false→ResV fs s x y
 |agg {xs ys:List X}:All2 (ResC fs s) xs ys→ResV fs s (.agg xs) (.agg ys)
 |fn {f:Nat} {xs ys:List X}:All2 (ResC fs s) xs ys→xs.all (fun x=>!isFn x)=true→ResV fs s (.fn f xs) (.fn f ys)
theorem Base.not_out_loc{E:Env}{U:List Nat}{c:Ctx}{a:Act}{w:World}(hb:Base E U c a w){k b:Nat}(h:c.loc k=some b)(hk:k∉E.fs):¬c.out E.fs b:=by
 rintro(hy|⟨k',h1,h2⟩|⟨k',m,hv,h1,h2,h3⟩)
 ·exact(hb.Y b hy).2.2.1 k h
 ·exact hk ((hb.loc k b h).2.2.2.1 k' h2▸h1)
 ·exact(hb.loc k b h).2.2.2.2 k' m hv h2 h3
theorem Base.not_out_arr{E:Env}{U:List Nat}{c:Ctx}{a:Act}{w:World}(hb:Base E U c a w){k m b:Nat}{hv:Value}(h:c.arr k=some (m,hv,true))(hbk:hv.ownBlock=some b)(hk:k∉E.fs):¬c.out E.fs b:=by
 rintro(hy|⟨k',h1,h2⟩|⟨k',m',hv',h1,h2,h3⟩)
 ·exact(hb.Y b hy).2.2.2 k m hv h hbk
 ·exact(hb.loc k' b h2).2.2.2.2 k m hv h hbk
 ·exact hk ((hb.arr k m hv b h hbk).2.2.2 k' m' hv' h2 h3▸h1)
theorem Base.out_X{E:Env}{U:List Nat}{c:Ctx}{a:Act}{w:World}(hb:Base E U c a w){b:Nat}(h:c.out E.fs b)(hlt:b<E.B):E.X b:=by
 rcases h with hy|⟨k,h1,h2⟩|⟨k,m,hv,h1,h2,h3⟩
 ·exact(hb.Y b hy).2.1 hlt
 ·rcases(hb.loc k b h2).1 with h|h
  ·omega
  ·exact h.2
 ·rcases(hb.arr k m hv b h2 h3).1 with h|h
  ·omega
  ·exact h.2
theorem Base.out_lt{E:Env}{U:List Nat}{c:Ctx}{a:Act}{w:World}(hb:Base E U c a w){b:Nat}(h:c.out E.fs b):b<w.heap.size:=by
 rcases h with hy|⟨k,h1,h2⟩|⟨k,m,hv,h1,h2,h3⟩
 ·exact(hb.Y b hy).1
 ·exact(hb.loc k b h2).2.1
 ·exact(hb.arr k m hv b h2 h3).2.1
open Classical in
noncomputable def Env.fin(E:Env)(c:Ctx)(w:World):Mem:=fun p=>if p.block<E.B∨c.out E.fs p.block then c.h p else w.cell? p
theorem Env.fin_le{E:Env}{U:List Nat}{c:Ctx}{a:Act}{w:World}(hb:Base E U c a w):Mem.le c.h (E.fin c w):=by
 intro p v h
 unfold Env.fin
 split
 ·exact h
 ·exact hb.hw p v h
theorem ctx_cut_ext{c:Ctx}{h':Mem}(hh:Mem.le c.h h'):Ext (c.cut []) (pureC h'):=
 ⟨hh,fun k b e=>by simp[Ctx.cut]at e,fun k m hv lv e=>by simp[Ctx.cut]at e⟩
theorem RepD.of_owns{B:Nat}{w:World}{e sz:Nat}{hv:Value}{rows:List (List X)}{vs:List Value}{h h':Mem}(ho:w.ownsRow B e sz hv rows.length vs)(hr:∀r∈rows,r.length=sz)(ha:All2 (RepD h) rows.flatten vs)
  (hh:Mem.le h h') (hcell:∀b o,hv.ownBlock=some b→h' ⟨b,o,none⟩=w.cell? ⟨b,o,none⟩):RepD h' (.sl rows) hv:=by
 obtain⟨h1,⟨rfl,h2⟩|⟨g,cap,cur,rfl,_,hg,hn,hc,hs,ht⟩⟩:=ho
 ·have:rows=[]:=List.eq_nil_of_length_eq_zero h2
  subst this
  exact .sl0 none 0 (Nat.zero_le _)
 ·refine .sl rows g 0 cap sz vs hn hc hr ha.length ?_ ?_
  ·intro i v hv
   rw[hcell g _ rfl,cell_of_row w g (0+i) cur e (0,0) hg,Nat.zero_add]
   rw[←ht,List.getElem?_take]at hv
   split at hv
   ·simpa using hv
   ·cases hv
  ·intro i x v hx hv
   exact(ha.get hx hv).mono hh
theorem ResC.fin{E:Env}{U:List Nat}{c:Ctx}{a:Act}{w:World}{s:St}(hb:Base E U c a w)(hh:∀key x,look s key=some x→Holds c a w key x){x y:X}{v:Value}(hr:ResC E.fs s x y)(hx:RepC c x v):
  RepC (pureC (E.fin c w)) y v:=by
 cases hr with
 |nils=>
  have:v=.slice none 0 0:=hx
  subst this
  exact RepD.toC (c:=(pureC (E.fin c w))) (.sl0 none 0 (Nat.zero_le _))
 |same ho=>exact(hx.cut ho).mono (ctx_cut_ext (Env.fin_le hb))
 | @ptr k off cells cells' hk hl hD hd hk9=>
   subst hd
   obtain⟨b,h1,rfl⟩:=hx
   obtain⟨b',T,vs,h2,h3,h4⟩:=box_of (hh (1000+k) (.box cells) hl) (by rw[Nat.blt_eq]at hk;omega)
   rw[h1]at h2;cases h2
   have hds:=Ds_of h4 hD
   have hbB:=Env.ok_own (hb.loc k b h1).1 (nfs hk9)
   have hbY:=hb.not_out_loc h1 (nfs hk9)
   refine RepD.toC (c:=(pureC (E.fin c w))) (RepD.eptr _ b off (vs.toList.drop off) (by have:=h4.length;simp at this⊢;omega) ?_ ?_)
   ·intro i v hv
    rw[List.getElem?_drop]at hv
    show E.fin c w ⟨b,off+i,none⟩=_
    unfold Env.fin
    rw[if_neg (by show¬(b<E.B∨c.out E.fs b);exact fun h=>h.elim (by omega) hbY),cell_of_row w b (off+i) vs T (0,0) h3]
    simpa using hv
   ·intro i x v hx hv
    rw[List.getElem?_drop]at hx hv
    exact(hds.get hx hv).mono (Env.fin_le hb)
 | @own k n sz rows hk hl hn hk9=>
   obtain⟨hv,e,vs,h1,h2,h3,h4⟩:=arr_of (hh _ _ hl)
   obtain⟨_,m,hv',lv,e1,e2,e3⟩:=hx
   rw[h1]at e1
   cases e1
   rw[e3 hn.symm]
   refine RepD.toC (c:=(pureC (E.fin c w))) (RepD.of_owns h2 h3 h4 (Env.fin_le hb) fun b o hbk=>?_)
   have hbB:=Env.ok_own (hb.arr k _ _ b h1 hbk).1 (nfs hk9)
   show E.fin c w _=_
   unfold Env.fin
   rw[if_neg (by show¬(b<E.B∨c.out E.fs b);exact fun h=>h.elim (by omega) (hb.not_out_arr h1 hbk (nfs hk9)))]
theorem All2.fin{E:Env}{U:List Nat}{c:Ctx}{a:Act}{w:World}{s:St}(hb:Base E U c a w)(hh:∀key x,look s key=some x→Holds c a w key x):∀{xs ys:List X}{vs:List Value},All2 (ResC E.fs s) xs ys→All2 (RepC c) xs vs→
  All2 (RepC (pureC (E.fin c w))) ys vs
 |[],[],[],_,_=>trivial
 |_::_,_::_,_::_,h,h'=>⟨h.1.fin hb hh h'.1,All2.fin hb hh h.2 h'.2⟩
 |[],_::_,_,h,_=>h.elim
 |_::_,[],_,h,_=>h.elim
 |[],[],_::_,_,h=>h.elim
 |_::_,_::_,[],_,h=>h.elim
theorem V.toC{c:Ctx}{u:X}{v:Value}(h:RepV c u v)(hu:isAT u=false):RepC c u v:=by
 cases u<;>first|exact h|cases hu
theorem C.toV{c:Ctx}{u:X}{v:Value}(h:RepC c u v)(hu:isAT u=false):RepV c u v:=by
 cases u<;>first|exact h|cases hu
theorem T.toV{c:Ctx}{u:X}{v:Value}(h:RepT c u v)(hu:isTup u=false):RepV c u v:=by
 cases u<;>first|exact h|cases hu
theorem V.toT{c:Ctx}{u:X}{v:Value}(h:RepV c u v)(hu:isTup u=false):RepT c u v:=by
 cases u<;>first|exact h|cases hu
theorem ResC.notAT{fs:List Nat}{s:St}{x y:X}(h:ResC fs s x y)(hx:isAT x=false):isAT y=false:=by
 cases h with
 |same _=>exact hx
 |own _ _ _ _=>rfl
 |nils=>rfl
 |ptr _ _ _ _ _=>rfl
theorem nf_toC{c:Ctx}{x:X}{v:Value}(h:RepP c x v)(hn:isFn x=false):RepC c x v:=by cases x<;>first|exact h|cases hn
theorem nf_toP{c:Ctx}{x:X}{v:Value}(h:RepC c x v)(hn:isFn x=false):RepP c x v:=by cases x<;>first|exact h|cases hn
theorem ResC.nf{fs:List Nat}{s:St}{x y:X}(h:ResC fs s x y)(hx:isFn x=false):isFn y=false:=by
 cases h with
 |same _=>exact hx
 |own _ _ _ _=>rfl
 |nils=>rfl
 |ptr _ _ _ _ _=>rfl
theorem All2.finP{E:Env}{U:List Nat}{c:Ctx}{a:Act}{w:World}{s:St}(hb:Base E U c a w)(hh:∀key x,look s key=some x→Holds c a w key x):∀{xs ys:List X}{vs:List Value},All2 (ResC E.fs s) xs ys→xs.all (fun x=>!isFn x)=true→All2 (RepP c) xs vs→
  All2 (RepP (pureC (E.fin c w))) ys vs
 |[],[],[],_,_,_=>trivial
 |_::_,_::_,_::_,h,hn,h'=>by
  simp only[List.all_cons,Bool.and_eq_true,Bool.not_eq_true']at hn
  exact⟨nf_toP (h.1.fin hb hh (nf_toC h'.1 hn.1)) (h.1.nf hn.1),All2.finP hb hh h.2 (by simpa using hn.2) h'.2⟩
 |[],_::_,_,h,_,_=>h.elim
 |_::_,[],_,h,_,_=>h.elim
 |[],[],_::_,_,_,h=>h.elim
 |_::_,_::_,[],_,_,h=>h.elim
theorem ResV.fin{E:Env}{U:List Nat}{c:Ctx}{a:Act}{w:World}{s:St}(hb:Base E U c a w)(hh:∀key x,look s key=some x→Holds c a w key x){x y:X}{v:Value}(hr:ResV E.fs s x y)(hx:RepV c x v):
  RepV (pureC (E.fin c w)) y v:=by
 cases hr with
 |c h hn=>exact C.toV (h.fin hb hh (V.toC hx hn)) (h.notAT hn)
 |agg h=>obtain⟨vs,h1,h2⟩:=hx;exact⟨vs,h1,All2.fin hb hh h h2⟩
 |fn h hn=>obtain⟨vs,h1,h2⟩:=hx;exact⟨vs,h1,All2.finP hb hh h hn h2⟩
theorem tupAT{y:X}(h:isAT y=false):isTup y=false:=by cases y<;>first|rfl|cases h
inductive RetI(E:Env)(s:St):ResultVar→X→Prop
 |tmp {t:Nat} {x y:X}:Nat.blt t 1000=true→look s t=some x→ResV E.fs s x y→isTup x=false→RetI E s (.tmp t) y
 |cellN {t T k n:Nat} {cells ys:List X}:Nat.blt t 1000=true→look s t=some (.ptr k 0)→Nat.blt k 1000=true→look s (1000+k)=some (.box cells)→TyI E.P T true n→cells.length=n→All2 (ResC E.fs s) cells ys→RetI E s (.cell t T) (.agg ys)
 |cell1 {t T k n:Nat} {x y:X}:Nat.blt t 1000=true→look s t=some (.ptr k 0)→Nat.blt k 1000=true→look s (1000+k)=some (.box [x])→TyI E.P T false n→ResC E.fs s x y→isAT x=false→RetI E s (.cell t T) y
def resSem(tmps:Array Value):ResultVar→Sem Value
 |.tmp t=>pure (tmps.getD t undef)
 |.cell a t=>do loadVar t (←asAddr (tmps.getD a undef))
theorem ResV.notTup{fs:List Nat}{s:St}{x y:X}(h:ResV fs s x y)(hx:isTup x=false):isTup y=false:=by
 cases h with
 |c h hn=>exact tupAT (h.notAT hn)
 |agg _=>rfl
 |fn _ _=>rfl
theorem RetI.fin{E:Env}{U:List Nat}{c:Ctx}{a:Act}{w:World}{s:St}(hb:Base E U c a w)(hh:∀key x,look s key=some x→Holds c a w key x){r:ResultVar}{y:X}(h:RetI E s r y):
  ∃v,(resSem a.tmps r).run E.P w=.ok v w∧RepV (pureC (E.fin c w)) y v∧isTup y=false:=by
 cases h with
 |tmp ht hl hr hn=>exact⟨_,rfl,hr.fin hb hh (T.toV ((hh _ _ hl).slot ht) hn),hr.notTup hn⟩
 |cellN ht hl hk hbox hT hlen hres=>
  rw[Nat.blt_eq]at hk
  obtain⟨b,h1,hv⟩:=ptr_of ((hh _ _ hl).slot ht)
  obtain⟨b',T',vs,h2,h3,h4⟩:=box_of (hh _ _ hbox) hk
  rw[h1]at h2;cases h2
  refine⟨.agg vs,?_,⟨vs.toList,by simp,All2.fin hb hh hres h4⟩,rfl⟩
  have:=run_loadN (P:=E.P) hT (b:=b) (o:=0) (vs:=vs.toList) (w:=w) (by rw[←h4.length,hlen]) fun i v hv=>by
   rw[cell_of_row w b (0+i) vs T' (0,0) h3];simpa using hv
  simp only[Instr.loadAt,Instr.sureAddr]at this
  simp only[resSem,hv,asAddr]
  simpa using this
 |cell1 ht hl hk hbox hT hres hn=>
  rw[Nat.blt_eq]at hk
  obtain⟨b,h1,hv⟩:=ptr_of ((hh _ _ hl).slot ht)
  obtain⟨b',T',vs,h2,h3,h4⟩:=box_of (hh _ _ hbox) hk
  rw[h1]at h2;cases h2
  obtain⟨v,vs',hvs,hr1,_⟩:=h4.cons_left
  refine⟨v,?_,C.toV (hres.fin hb hh hr1) (hres.notAT hn),?_⟩
  ·have:=run_load1 (P:=E.P) hT (b:=b) (o:=0) (v:=v) (w:=w) (by rw[cell_of_row w b 0 vs T' (0,0) h3,←Array.getElem?_toList,hvs];rfl)
   simp only[Instr.loadAt,Instr.sureAddr]at this
   simp only[resSem,hv,asAddr]
   simpa using this
  ·exact tupAT (hres.notAT hn)
def tupOf:List X→X
 |[y]=>y
 |ys=>.tup ys
def RetQ(E:Env)(rs:List ResultVar)(res:X):Exit→List Nat→St→Prop:=fun e _ s=>(e=.ret∨e=.normal)∧∃ys,All2 (RetI E s) rs ys∧tupOf ys=res
theorem run_resSems{E:Env}{U:List Nat}{c:Ctx}{a:Act}{w:World}{s:St}(hb:Base E U c a w)(hh:∀key x,look s key=some x→Holds c a w key x):∀{rs:List ResultVar}{ys:List X},All2 (RetI E s) rs ys→
  ∃vs,(rs.mapM (resSem a.tmps)).run E.P w=.ok vs w∧All2 (RepV (pureC (E.fin c w))) ys vs∧∀y∈ys,isTup y=false
 |[],[],_=>⟨[],rfl,trivial,fun y hy=>by cases hy⟩
 |r::rs,y::ys,h=>by
  obtain⟨v,h1,h2,h3⟩:=h.1.fin hb hh
  obtain⟨vs,h4,h5,h6⟩:=run_resSems hb hh h.2
  refine⟨v::vs,?_,⟨h2,h5⟩,fun y hy=>?_⟩
  ·rw[List.mapM_cons];simp[Sem.run_bind,h1,h4]
  ·rcases List.mem_cons.1 hy with rfl|hy
   ·exact h3
   ·exact h6 y hy
 |[],_::_,h=>h.elim
 |_::_,[],h=>h.elim
def argSt:Nat→List X→St
 |_,[]=>[]
 |i,x::xs=>(i,x)::argSt (i+1) xs
theorem look_argSt{key:Nat}{x:X}:∀{xs:List X}{i:Nat},look (argSt i xs) key=some x→i≤key∧xs[key - i]?=some x
 |[],_,h=>by cases h
 |y::ys,i,h=>by
  simp only[argSt,look]at h
  split at h
  ·rename_i hb
   have:=Nat.eq_of_beq_eq_true hb
   subst this
   cases h
   simp
  ·rename_i hb
   have hne:i≠key:=fun e=>hb (by rw[e];exact Nat.beq_refl key)
   obtain⟨h1,h2⟩:=look_argSt h
   refine⟨by omega,?_⟩
   rw[show key - i=(key - (i+1))+1 by omega,List.getElem?_cons_succ]
   exact h2
abbrev mkE(P:Program)(nt:Nat)(fs:List Nat)(w:World)(c:Ctx):Env:=⟨P,nt,fs,c,w,none,[]⟩
theorem cell_putObj{w:World}{D:Nat}{o o':Obj}(h:w.heap[D]?=some o)(ho:o.isCells=false)(ho':o'.isCells=false)(p:Addr):(w.putObj D o').cell? p=w.cell? p:=by
 by_cases hp:p.block=D
 ·have h1:(w.putObj D o').heap[p.block]?=some o':=by rw[hp];exact World.putObj_heap_same (Array.getElem?_eq_some_iff.1 h).1
  rw[←hp]at h
  unfold World.cell?
  rw[h1,h]
  cases o<;>cases o'<;>simp_all[Obj.isCells]
 ·exact World.cell?_of_block (World.putObj_heap_other hp)
theorem leaves_marks{P:Program}{fn:Func}{tmps:Array Value}{R:Ending→World→Prop}{B:Nat}{Z:Nat→Prop}:∀(ds:List Deferred)(w:World),ds.Pairwise (· ≠ ·)→
  (∀d∈ds,∃D,d={target:=.collected D,args:=#[]}∧B≤D∧¬Z D∧w.heap[D]?=some (.deferred (some [])))→
  (∀w':World,w'.os=w.os→w'.tape=w.tape→w'.output=w.output→w'.heap.size=w.heap.size→(∀k,(k<B∨Z k∨∃o:Obj,w.heap[k]?=some o∧o.isCells=true)→w'.heap[k]?=w.heap[k]?)→(∀p,w'.cell? p=w.cell? p)→∃v,(results fn tmps).run P w'=.ok v w'∧R (.returned v) w')→
  LeavesInM Fence.wide 0 P fn tmps R ds .returning w
 |[],w,_,_,hR=>by
  obtain⟨v,h1,h2⟩:=hR w rfl rfl rfl rfl (fun _ _=>rfl) (fun _=>rfl)
  exact⟨v,h1,h2⟩
 |d::ds,w,hp,hd,hR=>by
  obtain⟨D,rfl,hB,hZ,hD⟩:=hd d List.mem_cons_self
  obtain⟨hp1,hp2⟩:=List.pairwise_cons.1 hp
  have ho:∀k,k≠D→(w.putObj D (.deferred none)).heap[k]?=w.heap[k]?:=fun k hk=>World.putObj_heap_other hk
  refine⟨(fun h=>by cases h),.inl ⟨D,w.putObj D (.deferred none),rfl,?_,leaves_marks (B:=B) (Z:=Z) ds _ hp2 ?_ ?_⟩⟩
  ·exact run_takeDeferred hD
  ·intro d' hd'
   obtain⟨D',rfl,h1,h2,h3⟩:=hd d' (List.mem_cons_of_mem _ hd')
   exact⟨D',rfl,h1,h2,(ho D' fun e=>hp1 _ hd' (by rw[e])).trans h3⟩
  ·intro w' e1 e2 e3 e4 e5 e6
   have hne:∀k,(k<B∨Z k∨∃o:Obj,w.heap[k]?=some o∧o.isCells=true)→k≠D:=by
    rintro k hk rfl
    rcases hk with hk|hk|⟨o,h1,h2⟩
    ·omega
    ·exact hZ hk
    ·rw[hD]at h1;cases h1;cases h2
   refine hR w' e1 e2 e3 (by rw[e4];simp) (fun k hk=>(e5 k ?_).trans (ho k (hne k hk))) fun p=>(e6 p).trans (cell_putObj hD rfl rfl p)
   exact hk.imp id (Or.imp id fun⟨o,h1,h2⟩=>⟨o,(ho k (hne k hk)).trans h1,h2⟩)
structure CtxOk(fs:List Nat)(c:Ctx)(w:World):Prop where
 hw:∀p v,c.h p=some v→w.cell? p=some v
 loc:∀k b,c.loc k=some b→k∈fs∧b<w.heap.size∧(∀o,c.h ⟨b,o,none⟩=none)∧(∀k',c.loc k'=some b→k'=k)∧(∀k' m hv,c.arr k'=some (m,hv,true)→hv.ownBlock≠some b)
 arr:∀k m hv b,c.arr k=some (m,hv,true)→hv.ownBlock=some b→k∈fs∧b<w.heap.size∧(∀o,c.h ⟨b,o,none⟩=none)∧(∀k' m' hv',c.arr k'=some (m',hv',true)→hv'.ownBlock=some b→k'=k)
 none:∀k,k∉fs→c.loc k=none∧c.arr k=none
 Y:∀b,c.Y b→b<w.heap.size∧(∀k,c.loc k≠some b)∧(∀k m hv,c.arr k=some (m,hv,true)→hv.ownBlock≠some b)
structure PostG(fs:List Nat)(c:Ctx)(w:World)(wr:St)(res:X)(v:Value)(c':Ctx)(w':World):Prop where
 below:BelX w.heap.size (c.out fs) w w'
 ok:CtxOk fs c' w'
 le:Mem.le c.h c'.h
 new:∀p v,c'.h p=some v→c.h p=some v∨w.heap.size≤p.block∨c.out fs p.block
 out:∀b,c'.out fs b→b<w.heap.size→c.out fs b
 loc:∀k b,c'.loc k=some b→c.loc k=some b
 arr:∀k m hv lv,c'.arr k=some (m,hv,lv)→∃m0 hv0 lv0,c.arr k=some (m0,hv0,lv0)∧m0≤m∧(m0=m→hv=hv0)
 wr:∀p∈wr,∀a,Holds c' a w' p.1 p.2
 res:RepT c' res v
def CtG(P:Program)(f:Nat)(fs:List Nat)(args:List X)(rd wr:St)(res:X):Prop:=
 ∀(c:Ctx)(w:World)(vs:List Value),CtxOk fs c w→(∀p∈rd,∀a,Holds c a w p.1 p.2)→All2 (RepV c) args vs→
  Calls P f vs.toArray w fun e w'=>∃v c',e=.returned v∧PostG fs c w wr res v c' w'
def Ctx.pub(c:Ctx)(fs:List Nat)(h:Mem):Ctx:=⟨h,fun k=>if fs.contains k then c.loc k else none,fun k=>if fs.contains k then c.arr k else none,c.Y⟩
theorem pub_loc{c:Ctx}{fs:List Nat}{h:Mem}{k b:Nat}(e:(c.pub fs h).loc k=some b):k∈fs∧c.loc k=some b:=by
 simp only[Ctx.pub]at e;split at e
 ·exact⟨List.contains_iff_mem.1 ‹_›,e⟩
 ·cases e
theorem pub_arr{c:Ctx}{fs:List Nat}{h:Mem}{k:Nat}{x:Nat×Value×Bool}(e:(c.pub fs h).arr k=some x):k∈fs∧c.arr k=some x:=by
 simp only[Ctx.pub]at e;split at e
 ·exact⟨List.contains_iff_mem.1 ‹_›,e⟩
 ·cases e
theorem pub_out{c:Ctx}{fs:List Nat}{h:Mem}{b:Nat}(e:(c.pub fs h).out fs b):c.out fs b:=by
 rcases e with hy|⟨k,h1,h2⟩|⟨k,m,hv,h1,h2,h3⟩
 ·exact .inl hy
 ·exact .inr (.inl ⟨k,h1,(pub_loc h2).2⟩)
 ·exact .inr (.inr ⟨k,m,hv,h1,(pub_arr h2).2,h3⟩)
def hiP(fs:List Nat):X→Bool
 |.ptr k _=>fs.contains k
 |.own k _=>fs.contains k
 |.optr k _ _=>fs.contains k
 |.mptr k=>fs.contains k
 |.ownp k _ _ _ _=>fs.contains k
 |_=>true
def hiC(fs:List Nat):X→Bool
 |.fn _ caps=>caps.all (hiP fs)
 |x=>hiP fs x
def hiKey(fs:List Nat)(p:Nat×X):Bool:=Nat.ble 1000 p.1&&(match p.2 with
 |.box cells=>(fs.any fun k=>Nat.beq (1000+k) p.1)&&cells.all (hiC fs)
 |.arr _ _=>fs.any fun k=>Nat.beq (2000+k) p.1
 |.arrn _ _ mid _=>(fs.any fun k=>Nat.beq (2000+k) p.1)&&mid.all (hiC fs)
 |.omap _=>fs.any fun k=>Nat.beq (1000+k) p.1
 |.res _=>Nat.ble 3000 p.1
 |_=>false)
theorem RepP.pub{c:Ctx}{fs:List Nat}{h':Mem}(hh:Mem.le c.h h'){x:X}{v:Value}(h:RepP c x v)(ho:hiP fs x=true):RepP (c.pub fs h') x v:=by
 cases x
 case ptr k off=>obtain⟨b,h1,h2⟩:=h;simp only[hiP]at ho;exact⟨b,by simp only[Ctx.pub,if_pos ho];exact h1,h2⟩
 case own k n=>obtain⟨h0,m,hv,lv,h1,h2⟩:=h;simp only[hiP]at ho;exact⟨h0,m,hv,lv,by simp only[Ctx.pub,if_pos ho];exact h1,h2⟩
 case optr k n off=>obtain⟨m,hv,lv,h1,h2⟩:=h;simp only[hiP]at ho;exact⟨m,hv,lv,by simp only[Ctx.pub,if_pos ho];exact h1,h2⟩
 case mptr k=>obtain⟨b,h1,h2⟩:=h;simp only[hiP]at ho;exact⟨b,by simp only[Ctx.pub,if_pos ho];exact h1,h2⟩
 case ownp k n sz lo hi=>obtain⟨h0,m,hv,lv,h1,h2⟩:=h;simp only[hiP]at ho;exact⟨h0,m,hv,lv,by simp only[Ctx.pub,if_pos ho];exact h1,h2⟩
 case slc rows=>exact⟨RepD.mono hh h.1,h.2⟩
 case any=>exact h
 case raw=>exact h
 case nils=>exact h
 case cb=>exact h
 all_goals exact RepD.mono hh h
theorem RepC.pub{c:Ctx}{fs:List Nat}{h':Mem}(hh:Mem.le c.h h'){x:X}{v:Value}(h:RepC c x v)(ho:hiC fs x=true):RepC (c.pub fs h') x v:=by
 cases x
 case fn f caps=>obtain⟨vs,h1,h2⟩:=h;exact⟨vs,h1,All2.cut (R':=RepP (c.pub fs h')) (ok:=hiP fs) (fun _ _ h ho=>RepP.pub hh h ho) h2 ho⟩
 all_goals (simp only[RepC,hiC]at h ho⊢;exact RepP.pub hh h ho)
theorem Holds.pub{c:Ctx}{fs:List Nat}{h':Mem}{w w':World}(hh:Mem.le c.h h')(hn:∀p v,h' p=some v→c.h p=some v∨¬c.Y p.block)(hw':∀p v,h' p=some v→w'.cell? p=some v)(hB:BelX 0 (fun _=>False) w w')
  (hX:∀b,c.out fs b→w'.heap[b]?=w.heap[b]?) {key:Nat} {x:X} {a a':Act} (h:Holds c a w key x) (ho:hiKey fs (key,x)=true):Holds (c.pub fs h') a' w' key x:=by
 simp only[hiKey,Bool.and_eq_true,Nat.ble_eq]at ho
 obtain⟨ho1,ho⟩:=ho
 unfold Holds at *
 rw[if_neg (by omega)]at h⊢
 refine or_snd h fun h=>?_
 split at h
 ·rename_i h2
  rw[if_pos h2]
  obtain⟨b,o,h1,h3,h4⟩:=h
  cases x
  case box cells=>
   obtain⟨T,vs,h5,h6⟩:=h4
   simp only[Bool.and_eq_true]at ho
   have hf:=okU ho.1
   exact⟨b,o,by simp only[Ctx.pub,hf,if_true];exact h1,(hX b (.inr (.inl ⟨_,List.contains_iff_mem.1 hf,h1⟩))).trans h3,T,vs,h5,All2.cut (R':=RepC (c.pub fs h')) (ok:=hiC fs) (fun _ _ h ho=>RepC.pub hh h ho) h6 ho.2⟩
  case omap es=>
   obtain⟨as,clock,h5,h0,h6⟩:=h4
   simp only at ho
   have hf:=okU ho
   exact⟨b,o,by simp only[Ctx.pub,hf,if_true];exact h1,(hX b (.inr (.inl ⟨_,List.contains_iff_mem.1 hf,h1⟩))).trans h3,as,clock,h5,h0,h6.mono fun _ _ h=>⟨h.1.mono hh,pure_mono hh h.2⟩⟩
  all_goals exact h4.elim
 ·rename_i h2
  rw[if_neg h2]
  split at h
  ·rename_i h3
   rw[if_pos h3]
   obtain⟨sz,rows,hv,e,vs,hx,h1,h4,h5⟩:=h
   have hfx:fs.contains (key - 2000)=true∧ArrIs (c.pub fs h') x sz rows vs:=by
    cases x
    case arr sz' rows'=>exact⟨okU ho,hx.1,hx.2.1,hx.2.2.mono fun _ _=>RepD.mono hh⟩
    case arrn sz' pre mid post=>
     obtain⟨q1,q2,v1,v2,v3,q3,q4,q5,q6⟩:=hx
     simp only[Bool.and_eq_true]at ho
     exact⟨okU ho.1,q1,q2,v1,v2,v3,q3,q4.mono fun _ _=>RepD.mono hh,All2.cut (R':=RepC (c.pub fs h')) (ok:=hiC fs) (fun _ _ h ho=>RepC.pub hh h ho) q5 ho.2,q6.mono fun _ _=>RepD.mono hh⟩
    all_goals exact hx.elim
   obtain⟨hf,hx'⟩:=hfx
   refine⟨sz,rows,hv,e,vs,hx',by simp only[Ctx.pub,hf,if_true];exact h1,?_,h5⟩
   refine⟨h4.1,h4.2.imp id ?_⟩
   rintro⟨g,cap,cur,e1,e2,e3,r⟩
   refine⟨g,cap,cur,e1,e2,(hX g (.inr (.inr ⟨_,_,_,List.contains_iff_mem.1 hf,h1,by rw[e1];rfl⟩))).trans e3,r⟩
  ·rename_i h3
   rw[if_neg h3]
   obtain⟨hk0,J,hx0,hJ,hJ2⟩:=h
   have hx1:ResIs (c.pub fs h').loc J x:=by cases x<;>first|exact hx0|exact hx0.elim|cases ho
   exact⟨hk0,J,hx1,hJ,hJ _ _ _ _ _ hJ2 hh hn hw' hB fun b hb=>hX b (.inl hb)⟩
def RetG(E:Env)(rs:List ResultVar)(wr:St)(res:X):Exit→List Nat→St→Prop:=fun e U s=>RetQ E rs res e U s∧Le s wr
theorem slots_start{c:Ctx}{args:List X}{vs:List Value}{n:Nat}{w:World}{ds:List Deferred}(hargs:All2 (RepV c) args vs)(ht:args.all (fun x=>!isTup x)=true)(hl2:args.length≤1000):
  ∀key x,look (argSt 0 args) key=some x→Holds c {tmps:=vs.toArray++Array.replicate n undef,defers:=ds} w key x:=by
 intro key x hx
 obtain⟨_,hx⟩:=look_argSt hx
 rw[Nat.sub_zero]at hx
 have hk:key<args.length:=(List.getElem?_eq_some_iff.1 hx).1
 have hlen:=hargs.length
 unfold Holds
 rw[if_pos (by omega)]
 obtain⟨v,hv,hvr⟩:=hargs.get_right hx
 have hkv:key<vs.length:=by omega
 have:(vs.toArray++Array.replicate n undef).getD key undef=v:=by
  have h1:vs[key]=v:=by rw[List.getElem?_eq_getElem hkv]at hv;exact Option.some.inj hv
  simp[Array.getElem?_append,hkv,h1]
 rw[this]
 refine V.toT hvr ?_
 have:=(List.all_eq_true.1 ht) x (List.mem_of_getElem? hx)
 simpa using this
theorem Base.calm{E:Env}{U:List Nat}{s:St}{c:Ctx}{a:Act}{w w2:World}(hb:Base E U c a w)(hh:∀key x,look s key=some x→Holds c a w key x)(e1:w2.os=w.os)(e2:w2.tape=w.tape)(e3:w2.output=w.output)(e4:w2.heap.size=w.heap.size)
  (hpin:E.pins=[]) (e5:∀k,(k<E.B∨c.all k∨∃o:Obj,w.heap[k]?=some o∧o.isCells=true)→w2.heap[k]?=w.heap[k]?) (e6:∀p,w2.cell? p=w.cell? p):
  Base E U c {a with defers:=[]} w2∧∀key x,look s key=some x→Holds c {a with defers:=[]} w2 key x:=by
 refine⟨⟨hb.below.trans ⟨e1,e2,e3,by omega,fun k hk _=>e5 k (.inl hk)⟩,by rw[e4];exact hb.hB,hb.nt,⟨.nil,fun d hd=>by cases hd⟩,(fun p hp=>by rw[hpin]at hp;cases hp),fun p v h=>by rw[e6];exact hb.hw p v h,hb.hle,hb.hnew,?_,?_,hb.used,?_,hb.loc0,hb.arr0⟩,?_⟩
 ·rw[e4];exact hb.loc
 ·rw[e4];exact hb.arr
 ·rw[e4];exact hb.Y
 ·intro key x hx
  have h:=hh key x hx
  unfold Holds at *
  split at h
  ·rename_i hk;rw[if_pos hk];exact h
  ·rename_i hk
   rw[if_neg hk]
   refine or_snd h fun h=>?_
   split at h
   ·rename_i h2
    rw[if_pos h2]
    obtain⟨b,o,h1,h3,h4⟩:=h
    exact⟨b,o,h1,(e5 b (.inr (.inl (.inr (.inl ⟨_,h1⟩))))).trans h3,h4⟩
   ·rename_i h2
    rw[if_neg h2]
    split at h
    ·rename_i h3
     rw[if_pos h3]
     obtain⟨sz,rows,hv,e,vs,hx,h1,h4,h5⟩:=h
     refine⟨sz,rows,hv,e,vs,hx,h1,⟨h4.1,h4.2.imp id ?_⟩,h5⟩
     rintro⟨g,cap,cur,f1,f2,f3,r⟩
     exact⟨g,cap,cur,f1,f2,(e5 g (.inr (.inr ⟨_,f3,rfl⟩))).trans f3,r⟩
    ·rename_i h3
     rw[if_neg h3]
     obtain⟨hk0,J,hx0,hJ,hJ2⟩:=h
     exact⟨hk0,J,hx0,hJ,hJ _ _ _ _ _ hJ2 (Mem.le_refl _) (fun _ _ e=>.inl e) (fun p v h=>by rw[e6];exact hb.hw p v h) ⟨e1,e2,e3,by omega,fun k hk=>by omega⟩ fun b hb'=>e5 b (.inr (.inl (.inl hb')))⟩
theorem pure_pub{c:Ctx}{fs:List Nat}{h:Mem}:Ext (pureC h) (c.pub fs h):=⟨Mem.le_refl _,(fun _ _ e=>by cases e),(fun _ _ _ _ e=>by cases e)⟩
theorem Base.pub{E:Env}{U:List Nat}{c:Ctx}{a:Act}{w':World}(hb:Base E U c a w'):CtxOk E.fs (c.pub E.fs (E.fin c w')) w'∧Mem.le E.h0 (E.fin c w')∧
  (∀p v,E.fin c w' p=some v→E.h0 p=some v∨E.B≤p.block∨E.X p.block):=by
 have hfin:∀p v,E.fin c w' p=some v→w'.cell? p=some v:=by
  intro p v h
  unfold Env.fin at h
  split at h
  ·exact hb.hw p v h
  ·exact h
 have hout:∀b o,c.out E.fs b→c.h ⟨b,o,none⟩=none→E.fin c w' ⟨b,o,none⟩=none:=by
  intro b o h1 h2
  unfold Env.fin
  rw[if_pos (.inr h1)];exact h2
 have spot:∀(p:Addr) v,E.fin c w' p=some v→p=⟨p.block,p.off,none⟩:=by
  intro p v h
  have h5:=hfin p v h
  have hsp:p.spot=none:=by
   cases hsp:p.spot with
   |none=>rfl
   |some q=>simp only[World.cell?,hsp]at h5;split at h5<;>simp at h5
  cases p;simp at hsp;subst hsp;rfl
 refine⟨⟨hfin,?_,?_,fun k hk=>?_,?_⟩,Mem.le_trans hb.hle (Env.fin_le hb),?_⟩
 ·intro k b hk
  obtain⟨hk0,hk1⟩:=pub_loc hk
  obtain⟨_,h2,h3,h4,h5⟩:=hb.loc k b hk1
  exact⟨hk0,h2,fun o=>hout b o (.inr (.inl ⟨k,hk0,hk1⟩)) (h3 o),fun k' hk'=>h4 k' (pub_loc hk').2,fun k' m hv hk'=>h5 k' m hv (pub_arr hk').2⟩
 ·intro k m hv b hk hbk
  obtain⟨hk0,hk1⟩:=pub_arr hk
  obtain⟨_,h2,h3,h4⟩:=hb.arr k m hv b hk1 hbk
  exact⟨hk0,h2,fun o=>hout b o (.inr (.inr ⟨k,m,hv,hk0,hk1,hbk⟩)) (h3 o),fun k' m' hv' hk'=>h4 k' m' hv' (pub_arr hk').2⟩
 ·have hk':E.fs.contains k=false:=by simpa using hk
  simp only[Ctx.pub,hk']
  exact⟨rfl,rfl⟩
 ·intro b hy
  obtain⟨h1,_,h3,h4⟩:=hb.Y b hy
  exact⟨h1,fun k hk=>h3 k (pub_loc hk).2,fun k m hv hk=>h4 k m hv (pub_arr hk).2⟩
 ·intro p v hp
  have hsp:=spot p v hp
  have hp:E.fin c w' p=some v:=hp
  unfold Env.fin at hp
  split at hp
  ·exact hb.hnew p v hp
  ·rename_i hc
   exact .inr (.inl (Nat.le_of_not_lt fun h=>hc (.inl h)))
theorem PostG.of_baseP{E:Env}{U:List Nat}{s wr:St}{c:Ctx}{a:Act}{w w':World}{res:X}{v:Value}(hb:Base E U c a w')(hE:E.B=w.heap.size)(hh:∀key x,look s key=some x→Holds c a w' key x)(hle:Le s wr)(hwr:wr.all (hiKey E.fs)=true)
  (hr:RepT (c.pub E.fs (E.fin c w')) res v) (hpin:∀b,E.X b→E.c0.out E.fs b) (hw0:E.w0=w:=by rfl):PostG E.fs E.c0 w wr res v (c.pub E.fs (E.fin c w')) w':=by
 obtain⟨q1,q2,q3⟩:=hb.pub
 refine⟨?_,q1,q2,fun p v hp=>(q3 p v hp).imp id fun h=>h.imp (fun h=>by rw[←hE];exact h) (hpin _),?_,?_,?_,?_,hr⟩
 ·rw[←hE,←hw0];exact hb.below.mono (Nat.le_refl _) fun k _ h=>hpin k h
 ·intro b ho hlt
  exact hpin _ (hb.out_X (pub_out ho) (by omega))
 ·intro k b hk
  obtain⟨hk0,hk1⟩:=pub_loc hk
  exact hb.loc0 k b hk0 hk1
 ·intro k m hv lv hk
  obtain⟨hk0,hk1⟩:=pub_arr hk
  obtain⟨m0,hv0,lv0,h1,h2,h3,_⟩:=hb.arr0 k m hv lv hk0 hk1
  exact⟨m0,hv0,lv0,h1,h2,h3⟩
 ·intro p hp a'
  have hl:look s p.1=some p.2:=by
   have:∀{r:St},Le s r→∀p∈r,look s p.1=some p.2:=by
    intro r
    induction r with
    |nil=>intro _ p hp;cases hp
    |cons q r ih=>
     intro h p hp
     rcases List.mem_cons.1 hp with rfl|hp
     ·exact h.1
     ·exact ih h.2 p hp
   exact this hle p hp
  refine Holds.pub (Env.fin_le hb) ?_ q1.hw (BelX.refl _ _ _) (fun _ _=>rfl) (hh _ _ hl) (List.all_eq_true.1 hwr p hp)
  intro q u hq
  unfold Env.fin at hq
  split at hq
  ·exact .inl hq
  ·rename_i hc;exact .inr fun hy=>hc (.inr (.inl hy))
theorem PostG.of_base{E:Env}{U:List Nat}{s wr:St}{c:Ctx}{a:Act}{w w':World}{res:X}{v:Value}(hb:Base E U c a w')(hE:E.B=w.heap.size)(hh:∀key x,look s key=some x→Holds c a w' key x)(hle:Le s wr)(hwr:wr.all (hiKey E.fs)=true)
 (hr:RepT (pureC (E.fin c w')) res v) (hpin:∀b,E.X b→E.c0.out E.fs b) (hw0:E.w0=w:=by rfl):PostG E.fs E.c0 w wr res v (c.pub E.fs (E.fin c w')) w':=.of_baseP hb hE hh hle hwr (hr.mono pure_pub) hpin hw0
theorem CtG.at{P:Program}{f nt:Nat}{fn:Func}{code:Code}{rs:List ResultVar}{fs:List Nat}{args:List X}{rd wr:St}{res:X}(hf:P.funcs[f]?=some fn)(hb:fn.body=some code)(hn:fn.ntmps=nt)(hr:fn.results=rs.toArray)
  (hl:Nat.ble args.length nt=true) (ht:args.all (fun x=>!isTup x)=true) (hl2:Nat.ble args.length 1000=true) (hwr:wr.all (hiKey fs)=true)
  (w:World) (c0:Ctx) (h:OK (mkE P nt fs w c0) code (den (mkE P nt fs w c0) (RetG (mkE P nt fs w c0) rs wr res) []) fs (argSt 0 args++rd)) (vs:List Value) (hc0:CtxOk fs c0 w) (hrd':∀p∈rd,∀a,Holds c0 a w p.1 p.2) (hargs:All2 (RepV c0) args vs):
  Calls P f vs.toArray w fun e w'=>∃v c',e=.returned v∧PostG fs c0 w wr res v c' w':=by
 refine(callsIn_wide (n:=0)).1 (callsIn_of_wp_marks hf hb trivial ?_ rfl)
 have hlen:=hargs.length
 rw[Nat.ble_eq]at hl hl2
 refine wpIn_mono (h {tmps:=vs.toArray++Array.replicate (fn.ntmps - vs.toArray.size) undef,defers:=[]} w ?_) ?_
 ·refine⟨c0,⟨BelX.refl _ _ _,Nat.le_refl _,?_,⟨.nil,fun d hd=>by cases hd⟩,(fun p hp=>by cases hp),hc0.hw,Mem.le_refl _,fun p v e=>.inl e,?_,?_,hc0.none,?_,fun k b _ e=>e,fun k m hv lv _ e=>⟨m,hv,lv,e,Nat.le_refl _,fun _=>rfl,id,fun _ h=>.inl h⟩⟩,?_⟩
  ·simp[hn];omega
  ·intro k b hk
   obtain⟨h1,h2⟩:=hc0.loc k b hk
   exact⟨.inr ⟨h1,.inl (.inr (.inl ⟨k,h1,hk⟩))⟩,h2⟩
  ·intro k m hv b hk hbk
   obtain⟨h1,h2⟩:=hc0.arr k m hv b hk hbk
   exact⟨.inr ⟨h1,.inl (.inr (.inr ⟨k,m,hv,h1,hk,hbk⟩))⟩,h2⟩
  ·intro b hb
   obtain⟨h1,h2⟩:=hc0.Y b hb
   exact⟨h1,fun _=>.inl (.inl hb),h2⟩
  ·intro key x hx
   rw[look_append]at hx
   cases hk:look (argSt 0 args) key with
   |some y=>
    rw[hk]at hx;cases hx
    exact slots_start hargs ht hl2 key x hk
   |none=>
    rw[hk]at hx
    exact hrd' _ (look_mem hx) _
 ·rintro e a' w' ⟨U',s',⟨c,hbase,hh⟩,⟨he,ys,hys,hres⟩,hle⟩
  have hE:(mkE P nt fs w c0).B=w.heap.size:=rfl
  have post:LeavesInM Fence.wide 0 P fn a'.tmps (fun e w'=>∃v c',e=.returned v∧PostG fs c0 w wr res v c' w') a'.defers .returning w':=by
   refine leaves_marks (B:=w.heap.size) (Z:=c.all) a'.defers w' hbase.dfr.1 ?_ ?_
   ·intro d hd
    obtain⟨D,h1,h2,h3,h4⟩:=hbase.dfr.2 d hd
    exact⟨D,h1,h2,h3,h4⟩
   ·intro w2 e1 e2 e3 e4 e5 e6
    obtain⟨hbase,hh⟩:=hbase.calm hh e1 e2 e3 e4 rfl e5 e6
    obtain⟨vs',h1,h2,h3⟩:=run_resSems hbase hh hys
    have hrun:(results fn a'.tmps).run P w2=.ok (if h:vs'.toArray.size=1 then vs'.toArray[0]else .tuple vs'.toArray) w2:=by
     have he:results fn a'.tmps=(fn.results.mapM (resSem a'.tmps)>>=fun vs=>pure (if h:vs.size=1 then vs[0]else .tuple vs)):=by
      unfold results
      congr 1
     have h1':(rs.mapM (resSem a'.tmps)).run P w2=.ok vs' w2:=h1
     rw[he,hr,Array.mapM_eq_mapM_toList]
     simp[h1']
    refine⟨_,hrun,_,c.pub fs ((mkE P nt fs w c0).fin c w2),rfl,?_⟩
    exact PostG.of_base hbase hE hh hle hwr (by
     subst hres
     have hl:=h2.length
     match ys,vs',h2,h3,hl with
     |[y],[v],h2,h3,_=>exact V.toT h2.1 (h3 y (by simp))
     |[],[],h2,_,_=>exact⟨[],rfl,trivial⟩
     |y1::y2::ys,v1::v2::vs,h2,_,_=>exact⟨v1::v2::vs,by simp,h2⟩
     |[_],[],h2,_,_=>exact h2.elim
     |[],_::_,h2,_,_=>exact h2.elim
     |[_],_::_::_,h2,_,_=>exact h2.2.elim
     |_::_::_,[],h2,_,_=>exact h2.elim
     |_::_::_,[_],h2,_,_=>exact h2.2.elim) (fun b h=>h.elim id fun⟨p,hp,_⟩=>by cases hp)
  rcases he with rfl|rfl
  ·exact post
  ·exact post
theorem CtG.intro{P:Program}{f nt:Nat}{fn:Func}{code:Code}{rs:List ResultVar}{fs:List Nat}{args:List X}{rd wr:St}{res:X}(hf:P.funcs[f]?=some fn)(hb:fn.body=some code)(hn:fn.ntmps=nt)(hr:fn.results=rs.toArray)
  (hl:Nat.ble args.length nt=true) (ht:args.all (fun x=>!isTup x)=true) (hl2:Nat.ble args.length 1000=true) (hwr:wr.all (hiKey fs)=true)
  (h:∀w c,OK (mkE P nt fs w c) code (den (mkE P nt fs w c) (RetG (mkE P nt fs w c) rs wr res) []) fs (argSt 0 args++rd)):CtG P f fs args rd wr res:=
 fun c0 w vs hc0 hrd hargs=>CtG.at hf hb hn hr hl ht hl2 hwr w c0 (h w c0) vs hc0 hrd hargs
theorem Ct.of_at{P:Program}{f:Nat}{args:List X}{res:X}{h:Mem}{w:World}{vs:List Value}(hg:∀(hc0:CtxOk [] (pureC h) w),Calls P f vs.toArray w fun e w'=>∃v c',e=.returned v∧PostG [] (pureC h) w [] res v c' w')(hw:∀p v,h p=some v→w.cell? p=some v)(_hargs:All2 (RepV (pureC h)) args vs):
  Calls P f vs.toArray w fun e w'=>∃v h',e=.returned v∧Below w.heap.size w w'∧Mem.le h h'∧(∀p v,h' p=some v→h p=some v∨w.heap.size≤p.block)∧(∀p v,h' p=some v→w'.cell? p=some v)∧RepT (pureC h') res v:=by
 refine(hg ⟨hw,(fun k b e=>by cases e),(fun k m hv b e=>by cases e),(fun _ _=>⟨rfl,rfl⟩),(fun b e=>e.elim)⟩).mono ?_
 rintro e w' ⟨v,c',rfl,hp⟩
 have hno:∀b,¬(pureC h).out [] b:=by
  rintro b (hy|⟨k,_,e⟩|⟨k,m,hv,_,e,_⟩)
  ·exact hy
  ·cases e
  ·cases e
 refine⟨v,c'.h,rfl,(hp.below.mono (Nat.le_refl _) fun k _ hk=>(hno k hk).elim).below,hp.le,fun p v e=>(hp.new p v e).imp id fun h=>h.elim id fun h=>(hno _ h).elim,hp.ok.hw,?_⟩
 have hext:Ext c' (pureC c'.h):=⟨Mem.le_refl _,(fun k b e=>by have e2:=hp.loc k b e;cases e2),fun k m hv lv e=>by obtain⟨_,_,_,e2,_⟩:=hp.arr k m hv lv e;cases e2⟩
 exact hp.res.mono hext
theorem Ct.of_G{P:Program}{f:Nat}{args:List X}{res:X}(hg:CtG P f [] args [] [] res):Ct P f args res:=
 fun h w vs hw hargs=>Ct.of_at (args:=args) (fun hc0=>hg (pureC h) w vs hc0 (fun p hp=>by cases hp) hargs) hw hargs
theorem Ct.intro{P:Program}{f nt:Nat}{fn:Func}{code:Code}{rs:List ResultVar}{args:List X}{res:X}(hf:P.funcs[f]?=some fn)(hb:fn.body=some code)(hn:fn.ntmps=nt)(hr:fn.results=rs.toArray)
  (hl:Nat.ble args.length nt=true) (ht:args.all (fun x=>!isTup x)=true) (hl2:Nat.ble args.length 1000=true) (h:∀w c,OK (mkE P nt [] w c) code (den (mkE P nt [] w c) (RetQ (mkE P nt [] w c) rs res) []) [] (argSt 0 args)):Ct P f args res:=
 Ct.of_G (CtG.intro hf hb hn hr hl ht hl2 rfl fun w c=>by
  rw[List.append_nil]
  exact(h w c).mono fun _ _ _ hq=>⟨hq,trivial⟩)
def TabName (n : String) : Prop := n = "internal/strconv.uint64pow10" ∨ n = "strconv.ErrRange" ∨ n = "strconv.ErrSyntax" ∨ n = "martensite/recipe.names"
def nameTab:List (List UInt8):=[[104,101,97,116],[100,119,101,108,108],[113,117,101,110,99,104],[117,110,116,105,108],[99,111,111,108],[114,101,112,101,97,116]]
structure Tabs(P:Program)(w:World):Prop where
 pow : ∀ g, P.globalNamed "internal/strconv.uint64pow10" = some g → ∃ T d, w.heap[g]? = some (.cells (Lib.pow10Tab.map fun z => Value.int .u64 z).toArray T d)
 err : ∀ n, (n = "strconv.ErrRange" ∨ n = "strconv.ErrSyntax") → ∀ g, P.globalNamed n = some g → ∃ ev, w.cell? ⟨g, 0, none⟩ = some ev ∧ (ev = .nilIface ∨ ∃ te pe, ev = .iface te pe)
 nam : ∀ g, P.globalNamed "martensite/recipe.names" = some g → ∃ T d, w.heap[g]? = some (.cells (nameTab.map fun l => Value.string ⟨l.toArray⟩).toArray T d)
 lt:∀n,TabName n→∀g,P.globalNamed n=some g→g<w.heap.size
theorem Tabs.stays{P:Program}{w w':World}(h:Tabs P w)(hs:w.heap.size≤w'.heap.size)(hg:∀n,TabName n→∀g,P.globalNamed n=some g→w'.heap[g]?=w.heap[g]?):Tabs P w':=
 ⟨fun g hn=>by obtain⟨T,d,e⟩:=h.pow g hn;exact⟨T,d,(hg _ (.inl rfl) g hn).trans e⟩,
  fun n hnn g hn=>by
   obtain⟨ev,e1,e2⟩:=h.err n hnn g hn
   refine⟨ev,?_,e2⟩
   rw[←e1]
   unfold World.cell?
   rw[hg n (.inr (hnn.imp id .inl)) g hn],
  fun g hn=>by obtain⟨T,d,e⟩:=h.nam g hn;exact⟨T,d,(hg _ (.inr (.inr (.inr rfl))) g hn).trans e⟩,
  fun n hnn g hn=>Nat.lt_of_lt_of_le (h.lt n hnn g hn) hs⟩
theorem Tabs.below{P:Program}{w w':World}(h:Tabs P w)(hB:Below w.heap.size w w'):Tabs P w':=h.stays hB.size fun n hnn g hn=>hB.block g (h.lt n hnn g hn)
structure TabOk(E:Env):Prop where
 tab:Tabs E.P E.w0
 out:∀n,TabName n→∀g,E.P.globalNamed n=some g→¬E.X g
theorem TabOk.now{E:Env}{U:List Nat}{c:Ctx}{a:Act}{w:World}(h:TabOk E)(hb:Base E U c a w):Tabs E.P w:=h.tab.stays hb.below.size fun n hnn g hn=>hb.below.block g (h.tab.lt n hnn g hn) (h.out n hnn g hn)
def CtT(P:Program)(f:Nat)(args:List X)(res:X):Prop:=
 ∀(h:Mem)(w:World)(vs:List Value),Tabs P w→(∀p v,h p=some v→w.cell? p=some v)→All2 (RepV (pureC h)) args vs→
  Calls P f vs.toArray w fun e w'=>∃v h',e=.returned v∧Below w.heap.size w w'∧Mem.le h h'∧(∀p v,h' p=some v→h p=some v∨w.heap.size≤p.block)∧
   (∀p v,h' p=some v→w'.cell? p=some v)∧RepT (pureC h') res v
theorem Ct.toT{P:Program}{f:Nat}{args:List X}{res:X}(h:Ct P f args res):CtT P f args res:=fun m w vs _ hw ha=>h m w vs hw ha
def CtAt(E:Env)(f:Nat)(args:List X)(res:X):Prop:=
 ∀(h:Mem)(w:World)(vs:List Value),(∃U c a,Base E U c a w)→(∀p v,h p=some v→w.cell? p=some v)→All2 (RepV (pureC h)) args vs→
  Calls E.P f vs.toArray w fun e w'=>∃v h',e=.returned v∧Below w.heap.size w w'∧Mem.le h h'∧(∀p v,h' p=some v→h p=some v∨w.heap.size≤p.block)∧
   (∀p v,h' p=some v→w'.cell? p=some v)∧RepT (pureC h') res v
theorem Ct.at{E:Env}{f:Nat}{args:List X}{res:X}(h:Ct E.P f args res):CtAt E f args res:=fun m w vs _ hw ha=>h m w vs hw ha
theorem CtT.at{E:Env}{f:Nat}{args:List X}{res:X}(h:CtT E.P f args res)(hT:TabOk E):CtAt E f args res:=fun m w vs hb hw ha=>by
 obtain⟨U,c,a,hb⟩:=hb
 exact h m w vs (hT.now hb) hw ha
theorem CtT.intro{P:Program}{f nt:Nat}{fn:Func}{code:Code}{rs:List ResultVar}{args:List X}{res:X}(hf:P.funcs[f]?=some fn)(hb:fn.body=some code)(hn:fn.ntmps=nt)(hr:fn.results=rs.toArray)
  (hl:Nat.ble args.length nt=true) (ht:args.all (fun x=>!isTup x)=true) (hl2:Nat.ble args.length 1000=true) (h:∀w c,TabOk (mkE P nt [] w c)→OK (mkE P nt [] w c) code (den (mkE P nt [] w c) (RetQ (mkE P nt [] w c) rs res) []) [] (argSt 0 args)):CtT P f args res:=by
 intro m w vs htab hw hargs
 refine Ct.of_at (args:=args) (fun hc0=>CtG.at (rd:=[]) (wr:=[]) hf hb hn hr hl ht hl2 rfl w (pureC m) ?_ vs hc0 (fun p hp=>by cases hp) hargs) hw hargs
 rw[List.append_nil]
 refine(h w (pureC m) ⟨htab,?_⟩).mono fun _ _ _ hq=>⟨hq,trivial⟩
 rintro n _ g _ (h1|⟨p,hp,_⟩)
 ·rcases h1 with hy|⟨k,_,e⟩|⟨k,m,hv,_,e,_⟩
  ·exact hy
  ·cases e
  ·cases e
 ·cases hp
theorem Ret.r1{E:Env}{U:List Nat}{s:St}{r:ResultVar}{y res:X}(h:RetI E s r y)(he:y=res):RetQ E [r] res .ret U s:=⟨.inl rfl,[y],⟨h,trivial⟩,he⟩
theorem Ret.r2{E:Env}{U:List Nat}{s:St}{r1 r2:ResultVar}{y1 y2 res:X}(h1:RetI E s r1 y1)(h2:RetI E s r2 y2)(he:.tup [y1,y2]=res):RetQ E [r1,r2] res .ret U s:=⟨.inl rfl,[y1,y2],⟨h1,h2,trivial⟩,he⟩
theorem Ret.r3{E:Env}{U:List Nat}{s:St}{r1 r2 r3:ResultVar}{y1 y2 y3 res:X}(h1:RetI E s r1 y1)(h2:RetI E s r2 y2)(h3:RetI E s r3 y3)(he:.tup [y1,y2,y3]=res):RetQ E [r1,r2,r3] res .ret U s:=
 ⟨.inl rfl,[y1,y2,y3],⟨h1,h2,h3,trivial⟩,he⟩
theorem All2.z{α β:Type}{R:α→β→Prop}:All2 R [] []:=trivial
theorem All2.k{α β:Type}{R:α→β→Prop}{a:α}{b:β}{as:List α}{bs:List β}(h:R a b)(h':All2 R as bs):All2 R (a::as) (b::bs):=⟨h,h'⟩
end Go.Ab
namespace Go.Ab
open Go.RowKit
def RK(E:Env)(all:Array Oper)(l:List Oper)(U:List Nat)(s:St)(Q:Exit→List Nat→St→Prop):Prop:=
 ∀(k:Nat),(∀j,all[k+j]?=l[j]?)→∀a w,Good E U s a w→wpOpsIn E.F 0 E.P all (fun e a' w'=>∃U' s',Good E U' s' a' w'∧Q e U' s') (List.range' k l.length) a w
section
variable{E:Env}{all:Array Oper}{l:List Oper}{U:List Nat}{s:St}{Q:Exit→List Nat→St→Prop}
theorem RK.nil(h:Q .normal U s):RK E all [] U s Q:=fun _ _ a w hg=>by simpa[wpOpsIn]using ⟨U,s,hg,h⟩
theorem RK.c{o:Oper}{rd wr:St}{al:List Nat}(h:St1 E all o s rd wr al)(hr:RK E all l (al++U) (wr++s) Q)(ha:(al.all fun k=>!U.contains k)=true:=by rfl):RK E all (o::l) U s Q:=by
 intro k hk a w hg
 rw[List.length_cons,List.range'_succ,wpOpsIn_cons]
 refine opIn_wpOpIn (by simpa using hk 0) (h.1.good hg h.2 ha fun a' w' hg'=>hr (k+1) (fun j=>?_) a' w' hg')
 have:=hk (j+1)
 simp only[List.getElem?_cons_succ]at this
 rw[←this]
 congr 1
 omega
theorem RK.split{t:Nat}{b:Bool}(hl:look s t=some (.bool b))(hx:b=true→RK E all l U ((t,.bool true)::s) Q)(hy:b=false→RK E all l U ((t,.bool false)::s) Q):RK E all l U s Q:=by
 intro k hk a w hg
 cases b with
 |true=>exact hx rfl k hk a w (hg.imp fun c h=>⟨h.1,fun key x hx=>h.2 key x (by
  simp only[look]at hx;split at hx
  ·rename_i hb;have:=Nat.eq_of_beq_eq_true hb;cases hx;rw[←this];exact hl
  ·exact hx)⟩)
 |false=>exact hy rfl k hk a w (hg.imp fun c h=>⟨h.1,fun key x hx=>h.2 key x (by
  simp only[look]at hx;split at hx
  ·rename_i hb;have:=Nat.eq_of_beq_eq_true hb;cases hx;rw[←this];exact hl
  ·exact hx)⟩)
theorem RK.splitD{t:Nat}{p:Prop}[Decidable p](hl:look s t=some (.bool (decide p)))(hx:p→RK E all l U ((t,.bool true)::s) Q)(hy:¬p→RK E all l U ((t,.bool false)::s) Q):RK E all l U s Q:=
 RK.split hl (fun h=>hx (of_decide_eq_true h)) (fun h=>hy (of_decide_eq_false h))
theorem OK.reg{id:Nat}(h:RK E l.toArray l U s Q):OK E (.region id l.toArray false) Q U s:=by
 intro a w hg
 refine wpIn_region ?_
 have:=h 0 (by simp) a w hg
 rw[List.range_eq_range']
 simpa using this
theorem OK.condD{t:Nat}{p:Prop}[Decidable p]{x y:Code}(ht:Nat.blt t 1000=true)(hl:look s t=some (.bool (decide p)))(hx:p→OK E x Q U s)(hy:¬p→OK E y Q U s):OK E (.cond (.tmp t) x y) Q U s:=
 OK.cond ht hl (fun h=>hx (of_decide_eq_true h)) (fun h=>hy (of_decide_eq_false h))
theorem OK.condT{t:Nat}{b:Bool}{x y:Code}(ht:Nat.blt t 1000=true)(hl:look s t=some (.bool b))(hb:b=true)(hx:OK E x Q U s):OK E (.cond (.tmp t) x y) Q U s:=
 OK.cond ht hl (fun _=>hx) (fun h=>by rw[hb]at h;cases h)
theorem OK.condF{t:Nat}{b:Bool}{x y:Code}(ht:Nat.blt t 1000=true)(hl:look s t=some (.bool b))(hb:b=false)(hy:OK E y Q U s):OK E (.cond (.tmp t) x y) Q U s:=
 OK.cond ht hl (fun h=>by rw[hb]at h;cases h) (fun _=>hy)
theorem OK.slLen{t:Nat}{rows:List (List X)}{c:Code}(ht:Nat.blt t 1000=true)(hl:look s t=some (.sl rows))(h:rows.length≤maxLen→OK E c Q U s):OK E c Q U s:=by
 intro a w hg
 obtain⟨cx,hb,hh⟩:=hg
 obtain⟨_,cap,_,h1,h2,_⟩:=sl_of ((hh t _ hl).slot ht)
 exact h (Nat.le_trans h1 h2) a w ⟨cx,hb,hh⟩
theorem OK.strLen{t:Nat}{z:List UInt8}{c:Code}(ht:Nat.blt t 1000=true)(hl:look s t=some (.str z))(h:z.length≤maxLen→OK E c Q U s):OK E c Q U s:=by
 intro a w hg
 obtain⟨cx,hb,hh⟩:=hg
 exact h (str_of ((hh t _ hl).slot ht)).2 a w ⟨cx,hb,hh⟩
theorem OK.intB{t:Nat}{k:IntKind}{n:Int}{c:Code}(ht:Nat.blt t 1000=true)(hl:look s t=some (.int k n))(h:k.wrap n=n→OK E c Q U s):OK E c Q U s:=by
 intro a w hg
 obtain⟨cx,hb,hh⟩:=hg
 exact h (int_of ((hh t _ hl).slot ht)).2 a w ⟨cx,hb,hh⟩
end
theorem dfr_of{E:Env}{U:List Nat}{c c':Ctx}{a:Act}{w w':World}(hb:Base E U c a w)(ho:∀b,b<w.heap.size→c'.all b→c.all b)(hd:∀(D:Nat)(o:Obj),w.heap[D]?=some o→o.isCells=false→w'.heap[D]?=some o):
  a.defers.Pairwise (· ≠ ·)∧∀d∈a.defers,∃D,d={target:=.collected D,args:=#[]}∧E.B≤D∧¬c'.all D∧w'.heap[D]?=some (.deferred (some [])):=
 ⟨hb.dfr.1,fun d h=>by
  obtain⟨D,h1,h2,h3,h4⟩:=hb.dfr.2 d h
  exact⟨D,h1,h2,fun e=>h3 (ho D (Array.getElem?_eq_some_iff.1 h4).1 e),hd D _ h4 rfl⟩⟩
theorem pin_of{E:Env}{U:List Nat}{c c':Ctx}{a:Act}{w w':World}(hb:Base E U c a w)(ho:∀b,b<w.heap.size→c'.all b→c.all b)(hd:∀(D:Nat)(o:Obj),w.heap[D]?=some o→o.isCells=false→w'.heap[D]?=some o):
  ∀p∈E.pins,¬c'.all p.1∧p.2.isCells=false∧w'.heap[p.1]?=some p.2:=by
 intro p hp
 obtain⟨h1,h4,h5⟩:=hb.pin p hp
 exact⟨fun e=>h1 (ho _ (Array.getElem?_eq_some_iff.1 h5).1 e),h4,hd _ _ h5 h4⟩
theorem Base.below_grow{E:Env}{U:List Nat}{c:Ctx}{a:Act}{w w':World}{h':Mem}(hb:Base E U c a w)(hB:Below w.heap.size w w')(hle:Mem.le c.h h')(hnew:∀p v,h' p=some v→c.h p=some v∨w.heap.size≤p.block)
  (hw':∀p v,h' p=some v→w'.cell? p=some v):Base E U ⟨h',c.loc,c.arr,c.Y⟩ a w':=by
 have hs:=hB.size
 have none_of:∀b o,b<w.heap.size→c.h ⟨b,o,none⟩=none→h' ⟨b,o,none⟩=none:=by
  intro b o hlt hn
  cases hh:h' ⟨b,o,none⟩with
  |none=>rfl
  |some v=>
   rcases hnew _ _ hh with h|h
   ·rw[hn]at h;cases h
   ·simp only at h;omega
 have hkeep:∀(D:Nat)(o:Obj),w.heap[D]?=some o→o.isCells=false→w'.heap[D]?=some o:=fun D o h _=>(hB.block D (Array.getElem?_eq_some_iff.1 h).1).trans h
 refine⟨hb.below.trans (BelX.of (hB.mono hb.hB)),Nat.le_trans hb.hB hs,hb.nt,dfr_of hb (fun _ _ h=>h) hkeep,pin_of hb (fun _ _ h=>h) hkeep,hw',Mem.le_trans hb.hle hle,?_,?_,?_,hb.used,?_,hb.loc0,hb.arr0⟩
 ·intro p v hp
  rcases hnew p v hp with h|h
  ·exact hb.hnew p v h
  ·exact .inr (.inl (Nat.le_trans hb.hB h))
 ·intro k b hk
  obtain⟨h1,h2,h3,h4,h5⟩:=hb.loc k b hk
  exact⟨h1,Nat.lt_of_lt_of_le h2 hs,fun o=>none_of b o h2 (h3 o),h4,h5⟩
 ·intro k m hv b hk hbk
  obtain⟨h1,h2,h3,h4⟩:=hb.arr k m hv b hk hbk
  exact⟨h1,Nat.lt_of_lt_of_le h2 hs,fun o=>none_of b o h2 (h3 o),h4⟩
 ·intro b hy
  obtain⟨h1,h2⟩:=hb.Y b hy
  exact⟨Nat.lt_of_lt_of_le h1 hs,h2⟩
theorem ownsRow_below{w w':World}{B e sz:Nat}{hv:Value}{n:Nat}{vs:List Value}(h:w.ownsRow B e sz hv n vs)(hB:Below w.heap.size w w'):w'.ownsRow B e sz hv n vs:=by
 refine⟨h.1,h.2.imp id ?_⟩
 rintro⟨g,cap,cur,h1,h2,h3,r⟩
 exact⟨g,cap,cur,h1,h2,(hB.block g (Array.getElem?_eq_some_iff.1 h3).1).trans h3,r⟩
theorem Holds.below{E:Env}{U:List Nat}{c c':Ctx}{a:Act}{w w':World}(hb:Base E U c a w)(hB:Below w.heap.size w w')(he:Ext c c')(harr:∀k m hv,c.arr k=some (m,hv,true)→c'.arr k=some (m,hv,true)){key:Nat}{x:X}
  (hY:c'.Y=c.Y) (hnew:∀p v,c'.h p=some v→c.h p=some v∨w.heap.size≤p.block) (hw':∀p v,c'.h p=some v→w'.cell? p=some v) (hk:¬key<1000) (h:Holds c a w key x):Holds c' a w' key x:=by
 unfold Holds at *
 rw[if_neg hk]at h⊢
 refine or_snd h fun h=>?_
 split at h
 ·rename_i h2
  rw[if_pos h2]
  obtain⟨b,o,h1,h3,h4⟩:=h
  exact⟨b,o,he.loc _ _ h1,(hB.block b (hb.loc _ _ h1).2.1).trans h3,h4.mono he⟩
 ·rename_i h2
  rw[if_neg h2]
  split at h
  ·rename_i h6
   rw[if_pos h6]
   obtain⟨sz,rows,hv,e,vs,hx,h1,h3,h4⟩:=h
   exact⟨sz,rows,hv,e,vs,hx.mono he,harr _ _ _ h1,ownsRow_below h3 hB,h4⟩
  ·rename_i h6
   rw[if_neg h6]
   obtain⟨hk0,J,hx0,hJ,hJ2⟩:=h
   refine⟨hk0,J,hx0.mono he.loc,hJ,?_⟩
   rw[hY]
   exact hJ _ _ _ _ _ hJ2 he.h (fun p v e=>(hnew p v e).imp id fun h hy=>by have:=(hb.Y _ hy).1;omega) hw' (BelX.of (hB.mono (Nat.zero_le _))) fun b hy=>hB.block b (hb.Y _ hy).1
theorem below_alloc(w:World)(o:Obj):Below w.heap.size w (w.alloc o):=(Below.refl _ w).alloc (Nat.le_refl _) o
inductive OpsS(s:St):List Operand→List X→St→Prop
 |nil:OpsS s [] [] []
 |cons {o:Operand} {os:List Operand} {y:X} {ys:List X} {r r':St}:OpS s o y r→OpsS s os ys r'→OpsS s (o::os) (y::ys) (r++r')
theorem OpsS.looks{s:St}{os:List Operand}{ys:List X}{r:St}(h:OpsS s os ys r):Looks s r:=by
 induction h with
 |nil=>trivial
 |cons h _ ih=>exact h.looks.app ih
theorem OpsS.rep{s:St}{os:List Operand}{ys:List X}{r:St}(h:OpsS s os ys r){c:Ctx}{a:Act}{w:World}(hr:∀p∈r,Holds c a w p.1 p.2):All2 (RepT c) ys (os.map a.eval):=by
 induction h with
 |nil=>trivial
 |cons h _ ih=>exact⟨h.rep fun p hp=>hr p (List.mem_append_left _ hp),ih fun p hp=>hr p (List.mem_append_right _ hp)⟩
def okArg(x:X):Bool:=okV [] x&&!isTup x
theorem args_clean{c:Ctx}:∀{ys:List X}{vs:List Value},All2 (RepT c) ys vs→ys.all okArg=true→All2 (RepV (pureC c.h)) ys vs
 |[],[],_,_=>trivial
 |y::ys,v::vs,h,ho=>by
  simp only[List.all_cons,Bool.and_eq_true,okArg,Bool.not_eq_true']at ho
  exact⟨((T.toV h.1 ho.1.2).cut ho.1.1).mono (ctx_cut_ext (Mem.le_refl _)),args_clean h.2 (by simpa[okArg]using ho.2)⟩
 |[],_::_,h,_=>h.elim
 |_::_,[],h,_=>h.elim
theorem none_ext{h':Mem}{c:Ctx}:Ext (pureC h') ⟨h',c.loc,c.arr,c.Y⟩:=⟨Mem.le_refl _,(fun _ _ e=>by cases e),(fun _ _ _ _ e=>by cases e)⟩
theorem step_call{E:Env}{all:Array Oper}{s r rg:St}{d ty f:Nat}{pos:String}{after:Array Edge}{guard:Option (Nat×Bool)}{fo:Operand}{os:List Operand}{at_:Array TypeId}{ys caps:List X}{res:X}
  (hg:Gd all s guard rg) (hd:(Nat.blt d 1000&&Nat.blt d E.nt)=true) (hl:Looks s r) (hcall:∀args w,(callFunc f args).run E.P w=.ok (.enter f args) w) (hf:CtAt E f (ys++caps) res)
  (hargs:∀c a w,(∀p∈r,Holds c a w p.1 p.2)→All2 (RepV (pureC c.h)) ys (os.map a.eval)∧∃cvs:List Value,a.eval fo=.func (.func f) #[] cvs.toArray∧All2 (RepV (pureC c.h)) caps cvs):
  St1 E all ⟨some d,.call {callee:=.value fo,args:=os.toArray,argTypes:=at_},ty,pos,after,guard⟩ s (rg++r) [(d,res)] []:=by
 simp only[Bool.and_eq_true,Nat.blt_eq]at hd
 refine⟨?_,hg.looks.app hl⟩
 intro U c a w hb hr _ next Q hn
 have hw:=hg.wanted (o:=⟨some d,.call {callee:=.value fo,args:=os.toArray,argTypes:=at_},ty,pos,after,guard⟩) (fun p hp=>hr p (List.mem_append_left _ hp))
 obtain⟨ha,cvs,hfo,hc⟩:=hargs c a w fun p hp=>hr p (List.mem_append_right _ hp)
 unfold opIn
 rw[if_pos hw]
 refine⟨fun _ _=>trivial,?_⟩
 rw[Oper.semAt_eq _ _ _ fun cl he=>by cases he]
 have hrun:(execOp a.eval ⟨some d,.call {callee:=.value fo,args:=os.toArray,argTypes:=at_},ty,pos,after,guard⟩).run E.P w=.ok (.enter f (os.map a.eval++cvs).toArray) w:=by
  simp[execOp,resolve,hfo,Deferred.ofValue,invoke,hcall]
 rw[hrun]
 refine⟨(fun h=>by cases h),?_⟩
 have hcalls:=hf c.h w (os.map a.eval++cvs) ⟨U,c,a,hb⟩ hb.hw (ha.append hc)
 have h1:CallsIn E.F (0 - 1) E.P f (os.map a.eval++cvs).toArray w _:=(callsIn_wide (n:=0)).2 hcalls
 refine h1.mono ?_
 rintro e w' ⟨v,h',rfl,hB,hle,hnew,hw',hres⟩
 have hdt:d<a.tmps.size:=by rw[hb.nt];exact hd.2
 have hext:Ext c ⟨h',c.loc,c.arr,c.Y⟩:=⟨hle,fun _ _ e=>e,fun _ m hv lv e=>⟨m,hv,lv,e,Nat.le_refl _,fun _=>rfl⟩⟩
 refine hn ⟨h',c.loc,c.arr,c.Y⟩ _ w' ((hb.below_grow hB hle hnew hw').put _ _) hext ?_ ?_
 ·intro p hp
  simp only[List.mem_singleton]at hp
  subst hp
  unfold Holds
  rw[if_pos hd.1,getD_put hdt]
  exact hres.mono none_ext
 ·intro key y hk hy
  have hne:d≠key:=hk (d,res) (by simp)
  by_cases h1:key<1000
  ·refine Holds.put ?_ hne v
   unfold Holds at hy⊢
   rw[if_pos h1]at hy⊢
   exact hy.mono hext
  ·exact(Holds.below hb hB hext (fun _ _ _ e=>e) rfl hnew hw' h1 hy).put hne v
section
variable{E:Env}{all:Array Oper}{s r r1 r2 r3 rg:St}{d ty:Nat}{pos:String}{after:Array Edge}{guard:Option (Nat×Bool)}{x y z:Operand}
theorem S.call{f:Nat}{os:List Operand}{at_:Array TypeId}{ys:List X}{res:X}(hf:Ct E.P f ys res)(hcall:∀args w,(callFunc f args).run E.P w=.ok (.enter f args) w)(hg:Gd all s guard rg)(hd:(Nat.blt d 1000&&Nat.blt d E.nt)=true)
  (ha:OpsS s os ys r) (ho:ys.all okArg=true):St1 E all ⟨some d,.call {callee:=.value (.func f),args:=os.toArray,argTypes:=at_},ty,pos,after,guard⟩ s (rg++r) [(d,res)] []:=
 step_call (caps:=[]) hg hd ha.looks hcall (by simpa using hf.at) fun _ _ _ hr=>⟨args_clean (ha.rep hr) ho,[],rfl,trivial⟩
theorem S.callT{f:Nat}{os:List Operand}{at_:Array TypeId}{ys:List X}{res:X}(hf:CtT E.P f ys res)(hT:TabOk E)(hcall:∀args w,(callFunc f args).run E.P w=.ok (.enter f args) w)(hg:Gd all s guard rg)(hd:(Nat.blt d 1000&&Nat.blt d E.nt)=true)
  (ha:OpsS s os ys r) (ho:ys.all okArg=true):St1 E all ⟨some d,.call {callee:=.value (.func f),args:=os.toArray,argTypes:=at_},ty,pos,after,guard⟩ s (rg++r) [(d,res)] []:=
 step_call (caps:=[]) hg hd ha.looks hcall (by simpa using hf.at hT) fun _ _ _ hr=>⟨args_clean (ha.rep hr) ho,[],rfl,trivial⟩
theorem S.callv{f:Nat}{os:List Operand}{at_:Array TypeId}{ys caps:List X}{res:X}(hf:Ct E.P f (ys++caps) res)(hcall:∀args w,(callFunc f args).run E.P w=.ok (.enter f args) w)(hg:Gd all s guard rg)(hd:(Nat.blt d 1000&&Nat.blt d E.nt)=true)
  (hx:OpS s x (.fn f caps) r1) (ha:OpsS s os ys r) (ho:ys.all okArg=true) (ho2:caps.all (okP [])=true) (ho3:caps.all (fun u=>!notCell u)=true):
  St1 E all ⟨some d,.call {callee:=.value x,args:=os.toArray,argTypes:=at_},ty,pos,after,guard⟩ s (rg++(r1++r)) [(d,res)] []:=
 step_call hg hd (hx.looks.app ha.looks) hcall hf.at fun c a w hr=>by
  refine⟨args_clean (ha.rep fun p hp=>hr p (List.mem_append_right _ hp)) ho,?_⟩
  obtain⟨cvs,h1,h2⟩:=hx.rep (c:=c) (a:=a) (w:=w) fun p hp=>hr p (List.mem_append_left _ hp)
  refine⟨cvs,h1,?_⟩
  have:∀{us:List X}{vs:List Value},All2 (RepP c) us vs→us.all (okP [])=true→us.all (fun u=>!notCell u)=true→All2 (RepV (pureC c.h)) us vs:=by
   intro us
   induction us with
   |nil=>intro vs h _ _;exact(All2.nil_left h)▸trivial
   |cons u us ih=>
    intro vs h h1 h2
    obtain⟨v,vs',rfl,hv,hvs⟩:=h.cons_left
    simp only[List.all_cons,Bool.and_eq_true,Bool.not_eq_true']at h1 h2
    refine⟨?_,ih hvs h1.2 (by simpa using h2.2)⟩
    have hp:=(hv.cut h1.1).mono (ctx_cut_ext (Mem.le_refl c.h))
    have hn:=h2.1
    cases u<;>first|exact hp|cases hn
  exact this h2 ho2 ho3
end
end Go.Ab
namespace Go.Ab
open Go.RowKit
def srcD(du:TypeDesc):Prop:=(∃e,du=.slice e)∨du=.string
section
variable{P:Program}(w:World)
theorem run_append_src(base t u ty e e0:Nat)(du:TypeDesc)(i:TypeInfo)(z:Value)(size bytes:Nat)(ht:P.underlying t=some (.slice e))(hu:P.underlying u=some du)(hdu:srcD du)
  (hi:P.info? e=some i) (hz:i.zero=some z) (hsize:i.size=size) (hby:i.bytes=bytes) (hzs:z.cells.size=size)
  (v:Value) (n:Nat) (xs:List Value) (hown:w.ownsRow base e0 size v n xs) (x:Value) (m:Nat) (news:List Value) (hlen:∀w,(Builtin.lenOf x).run P w=.ok m w) (hl:news.length=m * size)
  (hf:∀w':World,(∀p,w'.cell? p=w.cell? p)→(Builtin.firstCells size m x).run P w'=.ok news.toArray w') (h1:∀q∈news,q.oneCell'=true)
  (h63:n+m≤maxLen) (hbytes:(n+m) * bytes≤140737488355328) (hbase:base≤w.heap.size):
  ∃v' w' e1,(Builtin.append_ #[t,u] ty #[v,x]).run P w=.ok v' w'∧w'.ownsRow base e1 size v' (n+m) (xs++news)∧w.grownBy w' v.ownBlock∧(v'.ownBlock=v.ownBlock∨(v'.ownBlock=some w.heap.size∧w.heap.size<w'.heap.size))∧(m=0→v'=v)∧∃a l c,v'=.slice a l c:=by
 subst hsize
 subst hby
 have hsmall:n+m≤9223372036854775807:=by simp only[maxLen]at h63;omega
 have hlen2:(xs++news).length=(n+m) * i.size:=by rw[List.length_append,hown.1,hl,Nat.add_mul]
 have grown:∀(old:Nat),(w.drew.alloc (.cells (xs.toArray++news.toArray++Builtin.zeroCells z.cells (grownCap w (n+m) old e - (n+m))) e)).ownsRow base e i.size
   (.slice (some ⟨w.heap.size,0,none⟩) (n+m) (grownCap w (n+m) old e)) (n+m) (xs++news):=by
  intro old
  have hge:=grownCap_ge w (n+m) old e
  have hcm:grownCap w (n+m) old e≤maxLen:=grownCap_le_maxLen w (n+m) old e h63
  refine⟨hlen2,.inr ⟨w.heap.size,_,_,rfl,hbase,heap_alloc_new w.drew _,hge,hcm,?_,?_⟩⟩
  ·simp only[Array.size_append,List.size_toArray,size_zeroCells,hzs,hown.1,hl,←Nat.add_mul]
   congr 1
   omega
  ·simp only[Array.toList_append,List.append_assoc]
   rw[←List.append_assoc,←hlen2]
   exact List.take_left
 have gby:∀(o:Obj)(row:Option Nat),w.grownBy (w.drew.alloc o) row:=fun o row=>⟨rfl,rfl,rfl,by simp,fun k hk _=>Below.heap_alloc w.drew o k hk⟩
 rcases hown.2 with⟨rfl,rfl⟩|⟨g,cap,cur,rfl,hbg,hg,hnc,hcm,hcs,htake⟩
 ·have hx:xs=[]:=List.eq_nil_of_length_eq_zero (by simpa using hown.1)
  subst hx
  by_cases hm:m=0
  ·subst hm
   have hn:news=[]:=List.eq_nil_of_length_eq_zero (by simpa using hl)
   subst hn
   refine⟨.slice none 0 0,w,e,?_,World.ownsRow_nil w base e i.size,⟨rfl,rfl,rfl,Nat.le_refl _,fun _ _ _=>rfl⟩,.inl rfl,fun _=>rfl,none,0,0,rfl⟩
   have:=hf w fun _=>rfl
   rcases hdu with⟨e',rfl⟩|rfl<;>simp[Builtin.append_,run_underlying ht,run_underlying hu,sizeOf,typeInfo,hi,hlen,this]
  ·have h63':¬(9223372036854775807<(m:Int)):=by omega
   have h48':¬(281474976710656<Builtin.nextslicecap m 0 * i.bytes):=by rw[nextslicecap_zero (by omega)];have hb:=hbytes;simp only[Nat.zero_add]at hb;omega
   have hgr:=grown 0
   simp only[Nat.zero_add,List.nil_append,Array.empty_append]at hgr⊢
   refine⟨.slice (some ⟨w.heap.size,0,none⟩) m (grownCap w m 0 e),w.drew.alloc (.cells (news.toArray++Builtin.zeroCells z.cells (grownCap w m 0 e - m)) e),e,?_,hgr,gby _ _,.inr ⟨rfl,by simp⟩,fun h=>absurd h hm,_,_,_,rfl⟩
   have hff:=hf w.drew fun _=>rfl
   rcases hdu with⟨e',rfl⟩|rfl<;>simp[Builtin.append_,run_underlying ht,run_underlying hu,sizeOf,typeInfo,zeroValue,hi,hz,hlen,hm,h63',h48',Question.forced,run_firstCells_none,hff,newRow,grownCap]
 ·by_cases hroom:n+m≤cap
  ·have hfit:n * i.size+news.length≤cur.size:=by rw[hl,hcs,←Nat.add_mul];exact Nat.mul_le_mul_right _ hroom
   have hff:=hf w fun _=>rfl
   have hst:=run_storeCells_at P g (n * i.size) e0 news 0 cur w hg (by simpa using hfit) h1
   simp only[Nat.add_zero]at hst
   refine⟨.slice (some ⟨g,0,none⟩) (n+m) cap,w.setRow g (cur.toList.take (n * i.size)++news++cur.toList.drop (n * i.size+news.length)).toArray,e0,?_,
    ⟨hlen2,.inr ⟨g,cap,_,rfl,hbg,setRow_heap w g cur _ e0 _ hg,hroom,hcm,?_,?_⟩⟩,⟨rfl,rfl,rfl,by simp,fun k _ hk=>setRow_other w g k _ (fun e=>hk (by simp[Value.ownBlock,e]))⟩,.inl rfl,(fun h=>by subst h;rfl),_,_,_,rfl⟩
   ·rcases hdu with⟨e',rfl⟩|rfl<;>simp[Builtin.append_,run_underlying ht,run_underlying hu,sizeOf,typeInfo,hi,hlen,hroom,hff,Addr.add_lit,hst]
   ·simp only[List.size_toArray,List.length_append,List.length_take,List.length_drop,Array.length_toList]
    omega
   ·rw[htake,←hlen2]
    exact List.take_left
  ·have holds:∀j u,xs[j]?=some u→w.cell? ((⟨g,0,none⟩:Addr).add j)=some u:=hown.cells (g:=g) rfl
   have hn:¬(n+m≤cap):=hroom
   have h63':¬(9223372036854775807<((n:Int)+(m:Int))):=by omega
   have h48:=growslice_fits (need:=n+m) (old:=cap) (bytes:=i.bytes) (by omega) hbytes
   have h48':¬(281474976710656<Builtin.nextslicecap (n+m) cap * i.bytes):=by omega
   have hff:=hf w.drew fun _=>rfl
   have hfo:=run_firstCells_some (P:=P) w.drew i.size n ⟨g,0,none⟩ n cap xs hown.1 (by simpa using holds)
   refine⟨_,_,e,?_,grown cap,gby _ _,.inr ⟨rfl,by simp⟩,(fun h=>by omega),_,_,_,rfl⟩
   rcases hdu with⟨e',rfl⟩|rfl<;>(simp[Builtin.append_,run_underlying ht,run_underlying hu,sizeOf,typeInfo,zeroValue,hi,hz,hlen,hn,h63',h48',Question.forced,hff,hfo,newRow,grownCap];congr 2;apply Array.ext';simp[List.append_assoc])
end
def cellsX:X→List X
 |.agg xs=>xs
 |x=>[x]
def okSt1:X→Bool
 |.any|.tup _|.agg _|.box _|.arr _ _|.optr _ _ _|.cb _|.res _|.resb _ _|.omap _|.arrn _ _ _ _|.ownp _ _ _ _ _=>false
 |.raw v=>v.oneCell'
 |_=>true
def okSt:X→Bool
 |.agg xs=>xs.all okSt1
 |x=>okSt1 x
theorem oneCell_of{c:Ctx}{u:X}{v:Value}(h:RepC c u v)(hu:okSt1 u=true):v.oneCell'=true:=by
 cases u with
 |int _ _=>cases h;rfl
 |bool _=>cases h;rfl
 |str _=>cases h;rfl
 |sl _=>cases h<;>rfl
 |eptr _=>cases h;rfl
 |fn f caps=>obtain⟨vs,rfl,_⟩:=h;rfl
 |ptr k off=>obtain⟨b,_,rfl⟩:=h;rfl
 |mptr k=>obtain⟨b,_,rfl⟩:=h;rfl
 |slc rows=>obtain⟨_,a,rfl⟩:=h;rfl
 |own k n=>obtain⟨⟨a,l,cp,rfl⟩,_⟩:=h;rfl
 |raw u=>have:v=u:=h;subst this;exact hu
 |nils=>have:v=.slice none 0 0:=h;subst this;rfl
 |_=>cases hu
theorem cells_of{c:Ctx}{u:X}{v:Value}(h:RepT c u v)(hu:okSt u=true):All2 (RepC c) (cellsX u) v.cells.toList∧∀z∈v.cells.toList,z.oneCell'=true:=by
 have one:∀{c:Ctx}{xs:List X}{vs:List Value},All2 (RepC c) xs vs→xs.all okSt1=true→∀z∈vs,z.oneCell'=true:=by
  intro c xs
  induction xs with
  |nil=>intro vs h _ z hz;rw[All2.nil_left h]at hz;cases hz
  |cons x xs ih=>
   intro vs h ho z hz
   obtain⟨v,vs',rfl,h1,h2⟩:=h.cons_left
   simp only[List.all_cons,Bool.and_eq_true]at ho
   rcases List.mem_cons.1 hz with rfl|hz
   ·exact oneCell_of h1 ho.1
   ·exact ih h2 ho.2 z hz
 cases u
 case agg xs=>obtain⟨vs,rfl,h2⟩:=h;exact⟨by simpa[Value.cells,cellsX]using h2,by simpa[Value.cells]using one h2 hu⟩
 case tup xs=>cases hu
 all_goals
  simp only[RepT,RepV]at h
  have ho:=oneCell_of h hu
  have hc:v.cells= #[v]:=by cases v<;>first|rfl|cases ho
  rw[hc]
  exact⟨⟨h,trivial⟩,fun z hz=>by simp at hz;subst hz;exact ho⟩
def Ctx.box(c:Ctx)(k b:Nat):Ctx:=⟨c.h,fun j=>if j=k then some b else c.loc j,c.arr,c.Y⟩
theorem Base.boxO{E:Env}{U:List Nat}{c:Ctx}{a:Act}{w:World}(hb:Base E U c a w){k:Nat}(hk9:k∉E.fs)(hk:k∉U)(o0:Obj):
  Base E ([k]++U) (c.box k w.heap.size) a (w.alloc o0)∧Ext c (c.box k w.heap.size)∧(c.box k w.heap.size).loc k=some w.heap.size∧(w.alloc o0).heap[w.heap.size]?=some o0∧
   ∀key y,¬key<1000→Holds c a w key y→Holds (c.box k w.heap.size) a (w.alloc o0) key y:=by
 have hn:=(hb.used k hk).1
 have hB:=below_alloc w o0
 have hg:=hb.below_grow hB (Mem.le_refl _) (fun p v e=>.inl e) fun p v e=>by
  have h1:=hb.hw p v e
  have h2:p.block<w.heap.size:=block_lt_of_cell h1
  rw[hB.cell h2];exact h1
 have hold:∀j b,c.loc j=some b→(c.box k w.heap.size).loc j=some b:=by
  intro j b hj
  simp only[Ctx.box]
  split
  ·rename_i e;subst e;rw[hn]at hj;cases hj
  ·exact hj
 have hext:Ext c (c.box k w.heap.size):=⟨Mem.le_refl _,hold,fun _ m hv lv e=>⟨m,hv,lv,e,Nat.le_refl _,fun _=>rfl⟩⟩
 have hnew:∀j b,(c.box k w.heap.size).loc j=some b→(j=k∧b=w.heap.size)∨(j≠k∧c.loc j=some b):=by
  intro j b hj
  simp only[Ctx.box]at hj
  split at hj
  ·rename_i e;exact .inl ⟨e,(Option.some.inj hj).symm⟩
  ·rename_i e;exact .inr ⟨e,hj⟩
 have hnone:∀o,c.h ⟨w.heap.size,o,none⟩=none:=fun o=>by
  cases hh:c.h ⟨w.heap.size,o,none⟩with
  |none=>rfl
  |some v=>have:=block_lt_of_cell (hb.hw _ _ hh);simp at this
 have hall:∀b,b<w.heap.size→(c.box k w.heap.size).all b→c.all b:=by
  intro b hlt h
  rcases h with h|⟨j,h⟩|h
  ·exact .inl h
  ·rcases hnew j b h with⟨_,rfl⟩|⟨_,h⟩
   ·omega
   ·exact .inr (.inl ⟨j,h⟩)
  ·exact .inr (.inr h)
 have hkp:∀(D:Nat)(o:Obj),w.heap[D]?=some o→o.isCells=false→(w.alloc o0).heap[D]?=some o:=fun D o h _=>(hB.block D (Array.getElem?_eq_some_iff.1 h).1).trans h
 have hlo:∀j,j∈E.fs→(c.box k w.heap.size).loc j=c.loc j:=fun j hj=>by simp only[Ctx.box];rw[if_neg (show¬j=k from fun e=>hk9 (e▸hj))]
 refine⟨⟨hg.below,hg.hB,hg.nt,dfr_of hb hall hkp,pin_of hb hall hkp,hg.hw,hg.hle,hg.hnew,?_,?_,?_,?_,fun j b hj e=>hb.loc0 j b hj (hlo j hj▸e),hb.arr0⟩,hext,by simp[Ctx.box],heap_alloc_new w _,fun key y hkey hy=>Holds.below hb hB hext (fun _ _ _ e=>e) rfl (fun _ _ e=>.inl e) hg.hw hkey hy⟩
 ·intro j b hj
  rcases hnew j b hj with⟨rfl,rfl⟩|⟨hne,hj2⟩
  ·refine⟨.inl hb.hB,by simp,hnone,fun k' hk'=>?_,fun k' m hv hk' he=>?_⟩
   ·rcases hnew k' _ hk' with⟨rfl,_⟩|⟨_,hk'⟩
    ·rfl
    ·have:=(hb.loc k' _ hk').2.1;omega
   ·have:=(hb.arr k' m hv _ hk' he).2.1;omega
  ·obtain⟨h1,h2,h3,h4,h5⟩:=hg.loc j b hj2
   refine⟨h1,h2,h3,fun k' hk'=>?_,h5⟩
   rcases hnew k' _ hk' with⟨rfl,rfl⟩|⟨_,hk'⟩
   ·have:=(hb.loc j _ hj2).2.1;omega
   ·exact h4 k' hk'
 ·exact hg.arr
 ·intro j hj
  simp only[List.mem_append,List.mem_singleton,not_or]at hj
  refine⟨?_,(hb.used j hj.2).2⟩
  simp only[Ctx.box]
  rw[if_neg hj.1]
  exact(hb.used j hj.2).1
 ·intro b hy
  obtain⟨h1,h2,h3,h4⟩:=hb.Y b hy
  refine⟨by simp;omega,h2,fun j hj=>?_,h4⟩
  rcases hnew j b hj with⟨rfl,rfl⟩|⟨_,hj2⟩
  ·omega
  ·exact h3 j hj2
theorem Base.box{E:Env}{U:List Nat}{c:Ctx}{a:Act}{w:World}(hb:Base E U c a w){k:Nat}(hk9:k∉E.fs)(hk:k∉U)(vs:Array Value)(T:TypeId):
 Base E ([k]++U) (c.box k w.heap.size) a (w.alloc (.cells vs T))∧Ext c (c.box k w.heap.size)∧(c.box k w.heap.size).loc k=some w.heap.size∧(w.alloc (.cells vs T)).heap[w.heap.size]?=some (.cells vs T (0,0))∧
  ∀key y,¬key<1000→Holds c a w key y→Holds (c.box k w.heap.size) a (w.alloc (.cells vs T)) key y:=hb.boxO hk9 hk _
structure ZeI(P:Program)(T:TypeId)(zx:List X):Prop where
 ex:∃z:Value,(∀w,(zeroValue T).run P w=.ok z w)∧z.cells.toList.map litX=zx∧z.cells.toList.all litOk=true
theorem Holds.mkBox{c:Ctx}{a:Act}{w:World}{k b:Nat}{T:TypeId}{vs:Array Value}{us:List X}(hk:k<1000)(h1:c.loc k=some b)(h2:w.heap[b]?=some (.cells vs T (0,0)))(h3:All2 (RepC c) us vs.toList):
  ¬(1000+k<1000)∧Holds c a w (1000+k) (.box us):=by
 refine⟨by omega,?_⟩
 unfold Holds
 rw[if_neg (by omega),if_pos (by omega),Nat.add_sub_cancel_left]
 exact .inr ⟨b,_,h1,h2,T,vs,rfl,h3⟩
section
variable{E:Env}{all:Array Oper}{s r r1 r2 r3 rg:St}{d ty:Nat}{pos:String}{after:Array Edge}{guard:Option (Nat×Bool)}{x y z:Operand}
theorem S.alloc{T k:Nat}{zx:List X}(hz:ZeI E.P T zx)(hk:Nat.blt k 1000=true)(hg:Gd all s guard rg)(hd:(Nat.blt d 1000&&Nat.blt d E.nt)=true)(hk9:E.fs.contains k=false:=by rfl):
  St1 E all ⟨some d,.alloc T,ty,pos,after,guard⟩ s (rg++[]) ((d,.ptr k 0)::[(1000+k,.box zx)]) [k]:=
 St1.mk hg hd rfl trivial fun U c a w hb _ hal=>by
  rw[Nat.blt_eq]at hk
  obtain⟨zv,h1,h2,h3⟩:=hz.ex
  have hkU:k∉U:=hal k (by simp)
  obtain⟨g1,g2,g3,g4,g5⟩:=hb.box (nfs hk9) hkU zv.cells T
  refine⟨.pointer (some ⟨w.heap.size,0,none⟩),_,w.alloc (.cells zv.cells T),?_,g1,g2,⟨w.heap.size,g3,rfl⟩,?_,?_⟩
  ·simp[execOp,Instr.alloc,h1,newVar,newRow]
  ·intro p hp
   simp only[List.mem_singleton]at hp
   subst hp
   exact Holds.mkBox (by omega) g3 g4 (h2▸lits_rep h3)
  ·intro key u hkey _ hu
   exact g5 key u hkey hu
theorem S.box{T k:Nat}{u:X}(hk:Nat.blt k 1000=true)(hg:Gd all s guard rg)(hd:(Nat.blt d 1000&&Nat.blt d E.nt)=true)(hx:OpS s x u r)(hu:okSt u=true)(hk9:E.fs.contains k=false:=by rfl):
  St1 E all ⟨some d,.box T x,ty,pos,after,guard⟩ s (rg++r) ((d,.ptr k 0)::[(1000+k,.box (cellsX u))]) [k]:=
 St1.mk hg hd rfl hx.looks fun U c a w hb hr hal=>by
  rw[Nat.blt_eq]at hk
  have hkU:k∉U:=hal k (by simp)
  have hv:=(cells_of (hx.rep (c:=c) (a:=a) (w:=w) hr) hu).1
  obtain⟨g1,g2,g3,g4,g5⟩:=hb.box (nfs hk9) hkU (a.eval x).cells T
  refine⟨.pointer (some ⟨w.heap.size,0,none⟩),_,w.alloc (.cells (a.eval x).cells T),?_,g1,g2,⟨w.heap.size,g3,rfl⟩,?_,?_⟩
  ·simp[execOp,Instr.box,newVar,newRow]
  ·intro p hp
   simp only[List.mem_singleton]at hp
   subst hp
   exact Holds.mkBox (by omega) g3 g4 (hv.mono fun _ _=>RepC.mono g2)
  ·intro key u hkey _ hu
   exact g5 key u hkey hu
theorem St1.eff{wr:St}{op:Op}(hg:Gd all s guard rg)(hdef:isDefer op=false)(hl:Looks s r)
  (h:∀(U:List Nat)(c:Ctx)(a:Act)(w:World),Base E U c a w→(∀p∈r,Holds c a w p.1 p.2)→∃w',(execOp a.eval ⟨none,op,ty,pos,after,guard⟩).run E.P w=.ok .skip w'∧Base E U c a w'∧
   (∀p∈wr,¬p.1<1000∧Holds c a w' p.1 p.2)∧(∀key y,¬key<1000→(∀p∈wr,p.1≠key)→Holds c a w key y→Holds c a w' key y)):St1 E all ⟨none,op,ty,pos,after,guard⟩ s (rg++r) wr []:=by
 refine⟨?_,hg.looks.app hl⟩
 intro U c a w hb hr hal next Q hn
 obtain⟨w',hrun,hb',hwr,hfr⟩:=h U c a w hb (fun p hp=>hr p (List.mem_append_right _ hp))
 have hw:=hg.wanted (o:=⟨none,op,ty,pos,after,guard⟩) (fun p hp=>hr p (List.mem_append_left _ hp))
 unfold opIn
 rw[if_pos hw]
 refine⟨fun _ _=>trivial,?_⟩
 rw[Oper.semAt_eq _ _ _ (fun cl he=>by simp only at he;rw[he]at hdef;cases hdef),hrun]
 refine hn c a w' hb' (Ext.refl c) (fun p hp=>(hwr p hp).2) fun key y hk hy=>?_
 by_cases h1:key<1000
 ·unfold Holds at hy⊢;rw[if_pos h1]at hy⊢;exact hy
 ·exact hfr key y h1 hk hy
theorem S.store{T n k off:Nat}{ag:Bool}{u:X}{us us':List X}(ht:TyI E.P T ag n)(hg:Gd all s guard rg)(hx:OpS s x (.ptr k off) r1)(hy:OpS s y u r2)(hk:Nat.blt k 1000=true)(hb:look s (1000+k)=some (.box us))
  (hu:okSt u=true) (hn:(cellsX u).length=n) (hfit:Nat.ble (off+n) us.length=true) (hus:us.take off++(cellsX u++us.drop (off+n))=us'):
  St1 E all ⟨none,.store T x y,ty,pos,after,guard⟩ s (rg++(r1++(r2++[(1000+k,.box us)]))) [(1000+k,.box us')] []:=
 St1.eff hg rfl (hx.looks.app (hy.looks.app ⟨hb,trivial⟩)) fun U c a w hbase hr=>by
  rw[Nat.blt_eq]at hk
  rw[Nat.ble_eq]at hfit
  subst hus
  obtain⟨b,h1,hv⟩:=ptr_of (hx.rep (c:=c) (a:=a) (w:=w) fun p hp=>hr p (by simp[hp]))
  obtain⟨b',T',vs,h2,h3,h4⟩:=box_of (hr (1000+k,.box us) (by simp)) hk
  rw[h1]at h2;cases h2
  obtain⟨hc,ho⟩:=cells_of (hy.rep (c:=c) (a:=a) (w:=w) fun p hp=>hr p (by simp[hp])) hu
  have hl:=h4.length
  have hcl:=hc.length
  have hvl:vs.toList.length=vs.size:=by simp
  have hcs:(a.eval y).cells.size=n:=by rw[←hn,hcl];simp
  have hst:=run_storeCells_at E.P b off T' (a.eval y).cells.toList 0 vs w h3 (by simp;omega) ho
  simp only[Nat.add_zero]at hst
  obtain⟨q1,q2,q3,q4,q5⟩:=hbase.loc k b h1
  have hw2:∀p v,c.h p=some v→(w.setRow b (vs.toList.take off++(a.eval y).cells.toList++vs.toList.drop (off+(a.eval y).cells.toList.length)).toArray).cell? p=some v:=by
   intro p v hp
   have hne:p.block≠b:=fun e=>by
    have h5:=hbase.hw p v hp
    have hsp:p.spot=none:=by
     cases hsp:p.spot with
     |none=>rfl
     |some q=>simp only[World.cell?,hsp]at h5;split at h5<;>simp at h5
    have h6:=q3 p.off
    have:p=⟨b,p.off,none⟩:=by cases p;simp at e hsp;subst e hsp;rfl
    rw[←this,hp]at h6;cases h6
   rw[cell_setRow_other w b _ p hne];exact hbase.hw p v hp
  have hkeep:∀(D:Nat)(o:Obj),w.heap[D]?=some o→o.isCells=false→(w.setRow b (vs.toList.take off++(a.eval y).cells.toList++vs.toList.drop (off+(a.eval y).cells.toList.length)).toArray).heap[D]?=some o:=fun D o hD ho=>by
   rw[setRow_other w b D _ (fun e=>by rw[e,h3]at hD;cases hD;cases ho)];exact hD
  refine⟨w.setRow b (vs.toList.take off++(a.eval y).cells.toList++vs.toList.drop (off+(a.eval y).cells.toList.length)).toArray,?_,⟨?_,by simpa using hbase.hB,hbase.nt,dfr_of hbase (fun _ _ h=>h) hkeep,pin_of hbase (fun _ _ h=>h) hkeep,hw2,hbase.hle,hbase.hnew,?_,?_,hbase.used,fun b2 hy=>by simpa using hbase.Y b2 hy,hbase.loc0,hbase.arr0⟩,?_,?_⟩
  ·simp[execOp,hv,Instr.storeAt,Instr.sureAddr,storeVar,ht.size,hcs,hst]
  ·exact hbase.below.trans ⟨rfl,rfl,rfl,by simp,fun j hj hx=>setRow_other w b j _ (Env.ok_turn q1 hj hx)⟩
  ·intro j b2 hj
   obtain⟨p1,p2,p3⟩:=hbase.loc j b2 hj
   exact⟨p1,by simpa using p2,p3⟩
  ·intro j m hv b2 hj hb2
   obtain⟨p1,p2,p3⟩:=hbase.arr j m hv b2 hj hb2
   exact⟨p1,by simpa using p2,p3⟩
  ·intro p hp
   simp only[List.mem_singleton]at hp
   subst hp
   refine Holds.mkBox hk h1 (setRow_heap w b vs _ T' _ h3) ?_
   have hnn:(a.eval y).cells.toList.length=n:=by rw[←hcl,hn]
   rw[hnn]
   simp only[List.append_assoc]
   exact(h4.take off).append (hc.append (h4.drop (off+n)))
  ·intro key u2 hkey hne hu2
   have hne2:key≠1000+k:=fun e=>hne _ (List.mem_singleton.2 rfl) e.symm
   unfold Holds at hu2⊢
   rw[if_neg hkey]at hu2⊢
   refine or_snd hu2 fun hu2=>?_
   split at hu2
   ·rename_i hlt
    rw[if_pos hlt]
    obtain⟨b2,o2,e1,e2,e3⟩:=hu2
    refine⟨b2,o2,e1,?_,e3⟩
    have:b2≠b:=fun e=>by subst e;have:=q4 _ e1;omega
    rw[setRow_other w b b2 _ this];exact e2
   ·rename_i hlt
    rw[if_neg hlt]
    split at hu2
    ·rename_i hlt2
     rw[if_pos hlt2]
     obtain⟨sz,rows,hv2,e,vs2,hx,e1,e2,e3⟩:=hu2
     refine⟨sz,rows,hv2,e,vs2,hx,e1,⟨e2.1,e2.2.imp id ?_⟩,e3⟩
     rintro⟨g,cap,cur,f1,f2,f3,f4⟩
     refine⟨g,cap,cur,f1,f2,?_,f4⟩
     have:g≠b:=fun e=>q5 _ _ _ e1 (by rw[f1,←e];rfl)
     rw[setRow_other w b g _ this];exact f3
    ·rename_i hlt2
     rw[if_neg hlt2]
     obtain⟨hk0,J,hx0,hJ,hJ2⟩:=hu2
     refine⟨hk0,J,hx0,hJ,hJ _ _ _ _ _ hJ2 (Mem.le_refl _) (fun _ _ e=>.inl e) hw2 ⟨rfl,rfl,rfl,by simp,fun j hj=>by omega⟩ fun b2 hy=>setRow_other w b b2 _ fun e=>?_⟩
     subst e
     exact(hbase.Y _ hy).2.2.1 k h1
end
end Go.Ab
namespace Go.Ab
open Go.RowKit
def setsX(off:Nat):List X→List X→List X
 |[],cs=>cs
 |x::xs,cs=>setsX (off+1) xs (cs.set off x)
def fillX(pl:Nat→Option (Nat×Nat))(cs:List X):List (Nat×X)→Option (List X)
 |[]=>some cs
 |(i,x)::rest=>match pl i with
  |none=>none
  |some (off,size)=>if Nat.beq (cellsX x).length size&&Nat.ble (off+size) cs.length then fillX pl (setsX off (cellsX x) cs) rest else none
theorem setsX_rep{R:X→Value→Prop}:∀(off j0:Nat){xs:List X}{vs:List Value}{cs:List X}{cells:Array Value},All2 R xs vs→All2 R cs cells.toList→
  All2 R (setsX (off+j0) xs cs) ((vs.zipIdx j0).foldl (fun cs (p:Value×Nat)=>cs.setIfInBounds (off+p.2) p.1) cells).toList
 |_,_,[],[],_,_,_,h=>h
 |off,j0,x::xs,v::vs,cs,cells,h,hc=>by
  simp only[setsX,List.zipIdx_cons,List.foldl_cons]
  have:=setsX_rep off (j0+1) (cs:=cs.set (off+j0) x) (cells:=cells.setIfInBounds (off+j0) v) h.2 (by simpa using All2.set h.1 (off+j0) hc)
  simpa[Nat.add_assoc]using this
 |_,_,[],_::_,_,_,h,_=>h.elim
 |_,_,_::_,[],_,_,h,_=>h.elim
theorem fill_rep{c:Ctx}(pl:Nat→Option (Nat×Nat)):∀(ps:List (Nat×X))(vs:List (Nat×Value))(cs:List X)(cells:Array Value)(out:List X),All2 (RepC c) cs cells.toList→
  All2 (fun p q=>p.1=q.1∧All2 (RepC c) (cellsX p.2) q.2.cells.toList) ps vs→fillX pl cs ps=some out→∃cells',Instr.fill pl cells vs=some cells'∧All2 (RepC c) out cells'.toList
 |[],[],cs,cells,out,h,_,hf=>by simp only[fillX,Option.some.injEq]at hf;subst hf;exact⟨cells,rfl,h⟩
 |(i,x)::ps,(j,v)::vs,cs,cells,out,h,hp,hf=>by
  obtain⟨⟨h1,h2⟩,h3⟩:=hp
  simp only at h1
  subst h1
  simp only[fillX]at hf
  simp only[Instr.fill]
  cases hpl:pl i with
  |none=>simp[hpl]at hf
  |some os=>
   obtain⟨off,size⟩:=os
   simp only[hpl]at hf⊢
   have hl:=h2.length
   have hc:=h.length
   simp only[Array.length_toList]at hl hc
   split at hf
   ·rename_i hb
    simp only[Bool.and_eq_true,Nat.ble_eq]at hb
    have hs:=Nat.eq_of_beq_eq_true hb.1
    rw[if_neg (by simp;omega)]
    have hset:=setsX_rep off 0 h2 h
    rw[Nat.add_zero]at hset
    refine fill_rep pl ps vs _ _ out ?_ h3 hf
    rw[←Array.foldl_toList,Array.toList_zipIdx]
    exact hset
   ·cases hf
 |[],_::_,_,_,_,_,h,_=>h.elim
 |_::_,[],_,_,_,_,h,_=>h.elim
structure BuI(P:Program)(T:TypeId)(zs:List Value)(pl:Nat→Option (Nat×Nat)):Prop where
 ex:∀parts,P.built T parts=Instr.fill pl zs.toArray parts
theorem parts_rep{c:Ctx}{f:Operand→Value}:∀{ps:List (Nat×Operand)}{us:List X},All2 (RepT c) us ((ps.map (·.2)).map f)→us.all okSt=true→
  All2 (fun p q=>p.1=q.1∧All2 (RepC c) (cellsX p.2) q.2.cells.toList) ((ps.map (·.1)).zip us) (ps.map fun(i,x)=>(i,f x))
 |[],[],_,_=>trivial
 |(i,x)::ps,u::us,h,ho=>by
  simp only[List.all_cons,Bool.and_eq_true]at ho
  exact⟨⟨rfl,(cells_of h.1 ho.1).1⟩,parts_rep h.2 ho.2⟩
 |[],_::_,h,_=>h.elim
 |_::_,[],h,_=>h.elim
section
variable{E:Env}{all:Array Oper}{s r r1 r2 r3 rg:St}{d ty:Nat}{pos:String}{after:Array Edge}{guard:Option (Nat×Bool)}{x y z:Operand}
theorem S.build{T:Nat}{zs:List Value}{pl:Nat→Option (Nat×Nat)}{ps:List (Nat×Operand)}{us out:List X}(hB:BuI E.P T zs pl)(hz:zs.all litOk=true)(hg:Gd all s guard rg)(hd:(Nat.blt d 1000&&Nat.blt d E.nt)=true)
  (hx:OpsS s (ps.map (·.2)) us r) (hu:us.all okSt=true) (hf:fillX pl (zs.map litX) ((ps.map (·.1)).zip us)=some out):
  St1 E all ⟨some d,.build T ps.toArray,ty,pos,after,guard⟩ s (rg++r) [(d,.agg out)] []:=
 St1.val hg hd rfl hx.looks fun c A w hh hr=>by
  obtain⟨cells,h1,h2⟩:=fill_rep (c:=c) pl _ _ _ zs.toArray out (by simpa using lits_rep hz) (parts_rep (hx.rep (c:=c) (a:=A) (w:=w) hr) hu) hf
  refine⟨.agg cells,?_,cells.toList,by simp,h2⟩
  have:=run_build (P:=E.P) w T (ps.map fun(i,x)=>(i,A.eval x)).toArray cells (by rw[hB.ex];exact h1)
  simp only[execOp]
  simp[this]
def Ctx.own(c:Ctx)(k n:Nat)(v:Value)(lv:Bool):Ctx:=⟨c.h,c.loc,fun j=>if j=k then some (n,v,lv)else c.arr j,c.Y⟩
structure ApI(P:Program)(t e sz bytes:Nat):Prop where
 und:P.underlying t=some (.slice e)
 ex:∃i z,P.info? e=some i∧i.zero=some z∧i.size=sz∧i.bytes=bytes∧z.cells.size=sz
 pos:0<sz
 run:(∀w,(sizeOf e).run P w=.ok sz w)∧∃z,(∀w,(zeroValue e).run P w=.ok z w)∧z.cells.size=sz
theorem Base.ownNew{E:Env}{U:List Nat}{c:Ctx}{a:Act}{w w':World}(hb:Base E U c a w){k:Nat}(hk9:k∉E.fs)(hk:k∉U){n:Nat}{v:Value}(hB:Below w.heap.size w w')(hv:v.ownBlock=none∨(v.ownBlock=some w.heap.size∧w.heap.size<w'.heap.size)):
  Base E ([k]++U) (c.own k n v true) a w'∧Ext c (c.own k n v true)∧(c.own k n v true).arr k=some (n,v,true)∧
   ∀key y,¬key<1000→Holds c a w key y→Holds (c.own k n v true) a w' key y:=by
 have hn:=(hb.used k hk).2
 have hg:=hb.below_grow hB (Mem.le_refl _) (fun p v e=>.inl e) fun p v e=>by
  have h1:=hb.hw p v e
  have h2:p.block<w.heap.size:=block_lt_of_cell h1
  rw[hB.cell h2];exact h1
 have hold:∀j q,c.arr j=some q→(c.own k n v true).arr j=some q:=by
  intro j q hj
  simp only[Ctx.own]
  split
  ·rename_i e;subst e;rw[hn]at hj;cases hj
  ·exact hj
 have hext:Ext c (c.own k n v true):=⟨Mem.le_refl _,fun _ _ e=>e,fun j m hv lv e=>⟨m,hv,lv,hold _ _ e,Nat.le_refl _,fun _=>rfl⟩⟩
 have hnew:∀j m u,(c.own k n v true).arr j=some (m,u,true)→(j=k∧u=v)∨(j≠k∧c.arr j=some (m,u,true)):=by
  intro j m u hj
  simp only[Ctx.own]at hj
  split at hj
  ·rename_i e;cases hj;exact .inl ⟨e,rfl⟩
  ·rename_i e;exact .inr ⟨e,hj⟩
 have hnone:∀o,c.h ⟨w.heap.size,o,none⟩=none:=fun o=>by
  cases hh:c.h ⟨w.heap.size,o,none⟩with
  |none=>rfl
  |some v=>have:=block_lt_of_cell (hb.hw _ _ hh);simp at this
 have hvb:∀b,v.ownBlock=some b→b=w.heap.size∧b<w'.heap.size:=by
  intro b e
  rcases hv with h|⟨h,h'⟩
  ·rw[h]at e;cases e
  ·rw[h]at e;cases e;exact⟨rfl,h'⟩
 have hlo:∀j,j∈E.fs→(c.own k n v true).arr j=c.arr j:=fun j hj=>by simp only[Ctx.own];rw[if_neg (show¬j=k from fun e=>hk9 (e▸hj))]
 have hall:∀b,b<w.heap.size→(c.own k n v true).all b→c.all b:=by
  intro b hlt h
  rcases h with h|h|⟨j,m,u,h,h2⟩
  ·exact .inl h
  ·exact .inr (.inl h)
  ·rcases hnew j m u h with⟨_,rfl⟩|⟨_,h3⟩
   ·have:=(hvb b h2).1;omega
   ·exact .inr (.inr ⟨j,m,u,h3,h2⟩)
 have hkp:∀(D:Nat)(o:Obj),w.heap[D]?=some o→o.isCells=false→w'.heap[D]?=some o:=fun D o h _=>(hB.block D (Array.getElem?_eq_some_iff.1 h).1).trans h
 refine⟨⟨hg.below,hg.hB,hg.nt,dfr_of hb hall hkp,pin_of hb hall hkp,hg.hw,hg.hle,hg.hnew,?_,?_,?_,?_,hb.loc0,fun j m u lv hj e=>hb.arr0 j m u lv hj (hlo j hj▸e)⟩,hext,by simp[Ctx.own],fun key y hkey hy=>Holds.below hb hB hext (fun _ _ _ e=>hold _ _ e) rfl (fun _ _ e=>.inl e) hg.hw hkey hy⟩
 ·intro j b hj
  obtain⟨h1,h2,h3,h4,h5⟩:=hg.loc j b hj
  refine⟨h1,h2,h3,h4,fun k' m u hk'=>?_⟩
  rcases hnew k' m u hk' with⟨rfl,rfl⟩|⟨_,hk'⟩
  ·intro e
   have:=(hvb b e).1
   have:=(hb.loc j b hj).2.1
   omega
  ·exact h5 k' m u hk'
 ·intro j m u b hj hbk
  rcases hnew j m u hj with⟨rfl,rfl⟩|⟨hne,hj2⟩
  ·obtain⟨rfl,hlt⟩:=hvb b hbk
   refine⟨.inl hb.hB,hlt,hnone,fun k' m' u' hk' hb'=>?_⟩
   rcases hnew k' m' u' hk' with⟨rfl,_⟩|⟨_,hk'⟩
   ·rfl
   ·have:=(hb.arr k' m' u' _ hk' hb').2.1;omega
  ·obtain⟨h1,h2,h3,h4⟩:=hg.arr j m u b hj2 hbk
   refine⟨h1,h2,h3,fun k' m' u' hk' hb'=>?_⟩
   rcases hnew k' m' u' hk' with⟨rfl,rfl⟩|⟨_,hk'⟩
   ·have h6:=(hvb b hb').1
    have:=(hb.arr j m u b hj2 hbk).2.1
    omega
   ·exact h4 k' m' u' hk' hb'
 ·intro j hj
  simp only[List.mem_append,List.mem_singleton,not_or]at hj
  refine⟨(hb.used j hj.2).1,?_⟩
  simp only[Ctx.own]
  rw[if_neg hj.1]
  exact(hb.used j hj.2).2
 ·intro b hy
  obtain⟨h1,h2,h3,h4⟩:=hb.Y b hy
  refine⟨Nat.lt_of_lt_of_le h1 hB.size,h2,h3,fun j m u hj e=>?_⟩
  rcases hnew j m u hj with⟨rfl,rfl⟩|⟨_,hj2⟩
  ·have:=(hvb b e).1;omega
  ·exact h4 j m u hj2 e
theorem Holds.mkArr{c:Ctx}{a:Act}{w:World}{k sz e:Nat}{hv:Value}{vs:List Value}{rows:List (List X)}(hk:k<1000)(h1:c.arr k=some (rows.length,hv,true))(h2:w.ownsRow 0 e sz hv rows.length vs)
  (h3:∀q∈rows,q.length=sz) (h4:All2 (RepD c.h) rows.flatten vs):¬(2000+k<1000)∧Holds c a w (2000+k) (.arr sz rows):=by
 refine⟨by omega,?_⟩
 unfold Holds
 rw[if_neg (by omega),if_neg (by omega),if_pos (by omega),Nat.add_sub_cancel_left]
 exact .inr ⟨sz,rows,hv,e,vs,⟨rfl,rfl,h4⟩,h1,h2,h3⟩
theorem S.nilOwn{k sz:Nat}(hg:Gd all s guard rg)(hd:(Nat.blt d 1000&&Nat.blt d E.nt)=true)(hk9:E.fs.contains k=false:=by rfl)(hk1:Nat.blt k 1000=true:=by rfl):
  St1 E all ⟨some d,.assign (.const (.slice none 0 0)),ty,pos,after,guard⟩ s (rg++[]) ((d,.own k 0)::[(2000+k,.arr sz [])]) [k]:=
 St1.mk hg hd rfl trivial fun U c a w hb _ hal=>by
  rw[Nat.blt_eq]at hk1
  have hkU:k∉U:=hal k (by simp)
  obtain⟨g1,g2,g3,g4⟩:=hb.ownNew (nfs hk9) hkU (n:=0) (v:=.slice none 0 0) (Below.refl _ w) (.inl rfl)
  refine⟨.slice none 0 0,_,w,rfl,g1,g2,⟨⟨none,0,0,rfl⟩,0,_,_,g3,Nat.le_refl _,fun _=>rfl⟩,?_,fun key u hkey _ hu=>g4 key u hkey hu⟩
  intro p hp
  simp only[List.mem_singleton]at hp
  subst hp
  exact Holds.mkArr (e:=0) (rows:=[]) (vs:=[]) (by omega) g3 (World.ownsRow_nil w _ 0 sz) (fun _ h=>by cases h) trivial
theorem S.mkSlice{t e sz bytes n k:Nat}{ps:List (Nat×Operand)}{us:List X}{rows:List (List X)}(hA:ApI E.P t e sz bytes)(hg:Gd all s guard rg)(hd:(Nat.blt d 1000&&Nat.blt d E.nt)=true)
  (hx:OpsS s (ps.map (·.2)) us r) (hu:us.all okSt=true) (_hrows:us.map cellsX=rows) (hf:fillX (fun i=>some (i * sz,sz)) (List.replicate (n * sz) .any) ((ps.map (·.1)).zip us)=some rows.flatten)
  (hr:rows.all (fun q=>Nat.beq q.length sz)=true) (hn:rows.length=n) (hD:rows.flatten.all okD=true) (hbig:Nat.ble (n * sz) 16777216=true) (hk9:E.fs.contains k=false:=by rfl) (hk1:Nat.blt k 1000=true:=by rfl):
  St1 E all ⟨some d,.buildSlice t n ps.toArray,ty,pos,after,guard⟩ s (rg++r) ((d,.own k n)::[(2000+k,.arr sz rows)]) [k]:=
 St1.mk hg hd rfl hx.looks fun U c a w hb hrr hal=>by
  clear _hrows
  rw[Nat.ble_eq]at hbig
  rw[Nat.blt_eq]at hk1
  have hkU:k∉U:=hal k (by simp)
  have hrow:∀q∈rows,q.length=sz:=fun q hq=>Nat.eq_of_beq_eq_true ((List.all_eq_true.1 hr) q hq)
  have hfl:rows.flatten.length=n * sz:=by rw[flatten_length hrow,hn]
  obtain⟨hsz,zv,hz,hzs⟩:=hA.run
  have hbase:∀(q:Array Value),q.size=n * sz→All2 (RepC c) (List.replicate (n * sz) .any) q.toList:=fun q hq=>All2.of_get (by simp[hq]) fun i u v hu _=>by
   simp only[List.getElem?_replicate]at hu
   split at hu
   ·cases hu;exact trivial
   ·cases hu
  obtain⟨cells,h1,h2⟩:=fill_rep (c:=c) (fun i=>some (i * sz,sz)) _ _ _ (((Array.range (n * sz)).map fun i=>(if n * sz=0 then #[]else zv.cells)[i % (if n * sz=0 then #[]else zv.cells).size]!)) rows.flatten (hbase _ (by simp)) (parts_rep (hx.rep (c:=c) (a:=a) (w:=w) hrr) hu) hf
  have hcs:cells.size=n * sz:=by have:=h2.length;rw[hfl]at this;simpa using this.symm
  have hB:=below_alloc w (.cells cells e)
  obtain⟨g1,g2,g3,g4⟩:=hb.ownNew (nfs hk9) hkU (n:=n) (v:=.slice (some ⟨w.heap.size,0,none⟩) n n) hB (.inr ⟨rfl,by simp⟩)
  refine⟨.slice (some ⟨w.heap.size,0,none⟩) n n,_,w.alloc (.cells cells e),?_,g1,g2,⟨⟨_,_,_,rfl⟩,n,_,_,g3,Nat.le_refl _,fun _=>rfl⟩,?_,fun key u hkey _ hu=>g4 key u hkey hu⟩
  ·have hnb:¬(n * sz>2 ^ 24):=by omega
   simp only[execOp,Instr.buildSlice,Sem.run_bind,run_underlying hA.und,Result.andThen_ok,hsz,hnb,if_false]
   by_cases h0:n * sz=0
   ·simp only[h0,if_true]at h1
    simp at h1
    simp[h0,h1,newRow]
   ·simp only[h0,if_false]at h1
    simp[h0,hz,h1,newRow]
  ·intro p hp
   simp only[List.mem_singleton]at hp
   subst hp
   refine Holds.mkArr (e:=e) (vs:=cells.toList) (by omega) (by rw[hn];exact g3) ⟨by simp[hcs,hn],.inr ⟨w.heap.size,n,cells,by rw[hn],Nat.zero_le _,heap_alloc_new w _,by omega,?_,hcs,?_⟩⟩ hrow (Ds_of (h2.mono fun _ _=>RepC.mono g2) hD)
   ·have:=hA.pos
    have:n≤n * sz:=Nat.le_mul_of_pos_right n this
    unfold maxLen;omega
   ·rw[hn,List.take_of_length_le (by simp[hcs])]
end
end Go.Ab
namespace Go.Ab
open Go.RowKit
theorem Base.append{E:Env}{U:List Nat}{c:Ctx}{a:Act}{w w':World}(hb:Base E U c a w){k n n':Nat}{v v':Value}(hk:c.arr k=some (n,v,true))(hg:w.grownBy w' v.ownBlock)(hn:n≤n')(hnv:n=n'→v'=v)
  (hv:v'.ownBlock=v.ownBlock∨(v'.ownBlock=some w.heap.size∧w.heap.size<w'.heap.size)) (hcl:∀(D:Nat)(o:Obj),v.ownBlock=some D→w.heap[D]?=some o→o.isCells=true):
  Base E U (c.own k n' v' true) a w'∧Ext c (c.own k n' v' true)∧(c.own k n' v' true).arr k=some (n',v',true)∧
   ∀key y,¬key<1000→key≠2000+k→Holds c a w key y→Holds (c.own k n' v' true) a w' key y:=by
 have hlt:∀p v,c.h p=some v→p.block<w.heap.size:=fun p v e=>block_lt_of_cell (hb.hw p v e)
 have hold:∀j m u lv,c.arr j=some (m,u,lv)→∃m' u' lv',(c.own k n' v' true).arr j=some (m',u',lv')∧m≤m'∧(m=m'→u'=u):=by
  intro j m u lv hj
  simp only[Ctx.own]
  split
  ·rename_i e;subst e;rw[hk]at hj;cases hj;exact⟨n',v',true,rfl,hn,hnv⟩
  ·exact⟨m,u,lv,hj,Nat.le_refl _,fun _=>rfl⟩
 have hext:Ext c (c.own k n' v' true):=⟨Mem.le_refl _,fun _ _ e=>e,hold⟩
 have hnew:∀j m u,(c.own k n' v' true).arr j=some (m,u,true)→(j=k∧u=v')∨(j≠k∧c.arr j=some (m,u,true)):=by
  intro j m u hj
  simp only[Ctx.own]at hj
  split at hj
  ·rename_i e;cases hj;exact .inl ⟨e,rfl⟩
  ·rename_i e;exact .inr ⟨e,hj⟩
 have hvb:∀b,v'.ownBlock=some b→(v.ownBlock=some b)∨(b=w.heap.size∧b<w'.heap.size):=by
  intro b e
  rcases hv with h|⟨h,h'⟩
  ·exact .inl (h▸e)
  ·rw[h]at e;cases e;exact .inr ⟨rfl,h'⟩
 have notv:∀b,v.ownBlock=some b→E.ok k b∧b<w.heap.size∧(∀o,c.h ⟨b,o,none⟩=none)∧(∀k' m' hv',c.arr k'=some (m',hv',true)→hv'.ownBlock=some b→k'=k):=fun b e=>hb.arr k n v b hk e
 have hwn:∀p u,c.h p=some u→w'.cell? p=some u:=by
  intro p u hp
  have h1:=hb.hw p u hp
  refine hg.cell h1 fun e=>?_
  have hsp:p.spot=none:=by
   cases hsp:p.spot with
   |none=>rfl
   |some q=>simp only[World.cell?,hsp]at h1;split at h1<;>simp at h1
  have h6:=(notv p.block e.symm).2.2.1 p.off
  have:p=⟨p.block,p.off,none⟩:=by cases p;simp at hsp;subst hsp;rfl
  rw[←this,hp]at h6;cases h6
 have hkeep:∀(D:Nat)(o:Obj),w.heap[D]?=some o→o.isCells=false→w'.heap[D]?=some o:=fun D o hD ho=>(hg.block D (Array.getElem?_eq_some_iff.1 hD).1 fun e=>by have:=hcl D o e.symm hD;rw[ho]at this;cases this).trans hD
 have hall:∀b,b<w.heap.size→(c.own k n' v' true).all b→c.all b:=by
  intro b hlt2 ho
  rcases ho with hy|h|⟨j,m,u,h2,h3⟩
  ·exact .inl hy
  ·exact .inr (.inl h)
  ·rcases hnew j m u h2 with⟨rfl,rfl⟩|⟨_,h2⟩
   ·rcases hvb b h3 with h|⟨h,_⟩
    ·exact .inr (.inr ⟨_,_,_,hk,h⟩)
    ·omega
   ·exact .inr (.inr ⟨j,m,u,h2,h3⟩)
 refine⟨⟨hb.below.trans ⟨hg.os,hg.tape,hg.output,hg.size,fun j hj hx=>hg.block j (Nat.lt_of_lt_of_le hj hb.hB) fun e=>Env.ok_turn (notv j e.symm).1 hj hx rfl⟩,Nat.le_trans hb.hB hg.size,hb.nt,dfr_of hb hall hkeep,pin_of hb hall hkeep,hwn,hb.hle,hb.hnew,?_,?_,?_,?_,hb.loc0,?_⟩,hext,by simp[Ctx.own],?_⟩
 ·intro j b hj
  obtain⟨h1,h2,h3,h4,h5⟩:=hb.loc j b hj
  refine⟨h1,Nat.lt_of_lt_of_le h2 hg.size,h3,h4,fun k' m u hk'=>?_⟩
  rcases hnew k' m u hk' with⟨rfl,rfl⟩|⟨_,hk'⟩
  ·intro e
   rcases hvb b e with h|⟨h,_⟩
   ·exact h5 _ _ _ hk h
   ·omega
  ·exact h5 k' m u hk'
 ·intro j m u b hj hbk
  rcases hnew j m u hj with⟨rfl,rfl⟩|⟨hne,hj2⟩
  ·rcases hvb b hbk with h|⟨rfl,hltb⟩
   ·obtain⟨h1,h2,h3,h4⟩:=notv b h
    refine⟨h1,Nat.lt_of_lt_of_le h2 hg.size,h3,fun k' m' u' hk' hb'=>?_⟩
    rcases hnew k' m' u' hk' with⟨rfl,_⟩|⟨_,hk'⟩
    ·rfl
    ·exact h4 k' m' u' hk' hb'
   ·refine⟨.inl hb.hB,hltb,fun o=>?_,fun k' m' u' hk' hb'=>?_⟩
    ·cases hh:c.h ⟨w.heap.size,o,none⟩with
     |none=>exact hh
     |some v=>have:=hlt _ _ hh;simp at this
    ·rcases hnew k' m' u' hk' with⟨rfl,_⟩|⟨_,hk'⟩
     ·rfl
     ·have:=(hb.arr k' m' u' _ hk' hb').2.1;omega
  ·obtain⟨h1,h2,h3,h4⟩:=hb.arr j m u b hj2 hbk
   refine⟨h1,Nat.lt_of_lt_of_le h2 hg.size,h3,fun k' m' u' hk' hb'=>?_⟩
   rcases hnew k' m' u' hk' with⟨rfl,rfl⟩|⟨_,hk'⟩
   ·rcases hvb b hb' with h|⟨h,_⟩
    ·exact((notv b h).2.2.2 j m u hj2 hbk).symm
    ·omega
   ·exact h4 k' m' u' hk' hb'
 ·intro j hj
  refine⟨(hb.used j hj).1,?_⟩
  simp only[Ctx.own]
  split
  ·rename_i e;subst e;have:=(hb.used _ hj).2;rw[hk]at this;cases this
  ·exact(hb.used j hj).2
 ·intro b hy
  obtain⟨h1,h2,h3,h4⟩:=hb.Y b hy
  refine⟨Nat.lt_of_lt_of_le h1 hg.size,h2,h3,fun j m u hj e=>?_⟩
  rcases hnew j m u hj with⟨rfl,rfl⟩|⟨_,hj2⟩
  ·rcases hvb b e with h|⟨h,_⟩
   ·exact h4 _ _ _ hk h
   ·omega
  ·exact h4 j m u hj2 e
 ·intro j m u lv hj e
  simp only[Ctx.own]at e
  split at e
  ·rename_i e2
   subst e2
   cases e
   obtain⟨m0,hv0,lv0,f1,f2,f3,f4,f5⟩:=hb.arr0 _ _ _ _ hj hk
   refine⟨m0,hv0,lv0,f1,by omega,fun e=>by rw[hnv (by omega)];exact f3 (by omega),fun _=>f4 rfl,fun b hb2=>?_⟩
   rcases hvb b hb2 with h|⟨h,_⟩
   ·exact f5 b h
   ·exact .inr (h▸hb.hB)
  ·exact hb.arr0 j m u lv hj e
 ·intro key u hkey hne hu
  unfold Holds at hu⊢
  rw[if_neg hkey]at hu⊢
  refine or_snd hu fun hu=>?_
  split at hu
  ·rename_i h2
   rw[if_pos h2]
   obtain⟨b,o,h1,h3,h4⟩:=hu
   refine⟨b,o,h1,(hg.block b (hb.loc _ _ h1).2.1 fun e=>?_).trans h3,h4.mono hext⟩
   exact(hb.loc _ _ h1).2.2.2.2 _ _ _ hk e.symm
  ·rename_i h2
   rw[if_neg h2]
   split at hu
   ·rename_i h6
    rw[if_pos h6]
    obtain⟨sz,rows,hv2,e,vs,hx,h1,h3,h4⟩:=hu
    have hj:key - 2000≠k:=by omega
    refine⟨sz,rows,hv2,e,vs,hx.mono hext,by simp only[Ctx.own];rw[if_neg hj];exact h1,⟨h3.1,h3.2.imp id ?_⟩,h4⟩
    rintro⟨g,cap,cur,f1,f2,f3,f4⟩
    refine⟨g,cap,cur,f1,f2,(hg.block g (Array.getElem?_eq_some_iff.1 f3).1 fun e=>?_).trans f3,f4⟩
    exact hj ((notv g e.symm).2.2.2 _ _ _ h1 (by rw[f1];rfl))
   ·rename_i h6
    rw[if_neg h6]
    obtain⟨hk0,J,hx0,hJ,hJ2⟩:=hu
    refine⟨hk0,J,hx0,hJ,hJ _ _ _ _ _ hJ2 (Mem.le_refl _) (fun _ _ e=>.inl e) hwn ⟨hg.os,hg.tape,hg.output,hg.size,fun j hj=>by omega⟩ fun b hy=>hg.block b (hb.Y b hy).1 fun e=>?_⟩
    exact(hb.Y b hy).2.2.2 _ _ _ hk e.symm
theorem not_dfr{w:World}{B e sz n:Nat}{v:Value}{xs:List Value}(h:w.ownsRow B e sz v n xs):∀(D:Nat)(o:Obj),v.ownBlock=some D→w.heap[D]?=some o→o.isCells=true:=by
 intro D o hD hd
 rcases h.2 with⟨rfl,_⟩|⟨g,cap,cur,rfl,_,hg,_⟩
 ·cases hD
 ·cases hD;rw[hg]at hd;cases hd;rfl
theorem own_of{c:Ctx}{k n:Nat}{v:Value}(h:RepT c (.own k n) v):(∃a l cp,v=.slice a l cp)∧∃m hv lv,c.arr k=some (m,hv,lv)∧n≤m∧(n=m→v=hv):=h
section
variable{E:Env}{all:Array Oper}{s r r1 r2 r3 rg:St}{d ty:Nat}{pos:String}{after:Array Edge}{guard:Option (Nat×Bool)}{x y z:Operand}
theorem append_any{t u e sz bytes k n m:Nat}{du:TypeDesc}{rows rows2:List (List X)}(hA:ApI E.P t e sz bytes)(hu:E.P.underlying u=some du)(hdu:srcD du)(hg:Gd all s guard rg)(hd:(Nat.blt d 1000&&Nat.blt d E.nt)=true)
  (hx:OpS s x (.own k n) r1) (hl:look s (2000+k)=some (.arr sz rows)) (hn:rows.length=n) (hl2:Looks s r2) (hr2:∀q∈rows2,q.length=sz) (hm:rows2.length=m) (hbd:(n+m) * bytes≤140737488355328) (hbm:n+m≤maxLen)
  (hsrc:∀c a w,(∀p v,c.h p=some v→w.cell? p=some v)→(∀p∈r2,Holds c a w p.1 p.2)→∃news,All2 (RepD c.h) rows2.flatten news∧(∀w,(Builtin.lenOf (a.eval y)).run E.P w=.ok m w)∧(∀q∈news,q.oneCell'=true)∧
   ∀w':World,(∀p,w'.cell? p=w.cell? p)→(Builtin.firstCells sz m (a.eval y)).run E.P w'=.ok news.toArray w'):
  St1 E all ⟨some d,.call {callee:=.builtin .append,args:=#[x,y],argTypes:=#[t,u]},ty,pos,after,guard⟩ s (rg++(r1++([(2000+k,.arr sz rows)]++r2))) ((d,.own k (n+m))::[(2000+k,.arr sz (rows++rows2))]) []:=
 St1.mk hg hd rfl (hx.looks.app (Looks.app (r:=[(2000+k,.arr sz rows)]) ⟨hl,trivial⟩ hl2)) fun U c a w hb hr _=>by
  subst hn
  obtain⟨hv0,m0,hv,lv,e1,e2,e3⟩:=own_of (hx.rep (c:=c) (a:=a) (w:=w) fun p hp=>hr p (by simp[hp]))
  obtain⟨v,e',vs,g1,g2,g3,g4⟩:=arr_of (hr (2000+k,.arr sz rows) (by simp))
  rw[e1]at g1
  cases g1
  obtain⟨news,n1,n2,n3,n4⟩:=hsrc c a w hb.hw fun p hp=>hr p (by simp[hp])
  obtain⟨i,zv,i1,i2,i3,i4,i5⟩:=hA.ex
  have hfl2:news.length=m * sz:=by rw[←n1.length,flatten_length hr2,hm]
  have hev:=e3 rfl
  obtain⟨v',w',e1',q1,q2,q3,q4,q5,q6⟩:=run_append_src (P:=E.P) w 0 t u ty e e' du i zv sz bytes hA.und hu hdu i1 i2 i3 i4 i5 _ rows.length vs g2 (a.eval y) m news n2 hfl2 n4 n3 hbm hbd (Nat.zero_le _)
  obtain⟨p1,p2,p3,p4⟩:=hb.append (n':=rows.length+m) (v':=v') e1 q3 (by omega) (fun h=>q5 (by omega)) q4 (not_dfr g2)
  refine⟨v',_,w',?_,p1,p2,⟨q6,_,_,_,p3,Nat.le_refl _,fun _=>rfl⟩,?_,fun key y hkey hne hy=>p4 key y hkey (fun e=>hne _ (List.mem_singleton.2 rfl) e.symm) hy⟩
  ·simp only[execOp,resolve,invoke,builtin,Sem.run_bind,Sem.run_pure,Result.andThen_ok,List.map_toArray,List.map_cons,List.map_nil,hev,q1]
  ·intro p hp
   simp only[List.mem_singleton]at hp
   subst hp
   refine Holds.mkArr (e:=e1') (arr_lt (hr (2000+k,.arr sz rows) (by simp))) (by rw[List.length_append,hm];exact p3) (by rw[List.length_append,hm];exact q2) (fun q hq=>?_) ?_
   ·rcases List.mem_append.1 hq with h|h
    ·exact g3 q h
    ·exact hr2 q h
   ·rw[List.flatten_append]
    exact(g4.append n1).mono fun _ _=>RepD.mono p2.h
theorem srcD_sl{e:Nat}:srcD (.slice e):=.inl ⟨e,rfl⟩
theorem oneCell_D{h:Mem}{x:X}{v:Value}(r:RepD h x v):v.oneCell'=true:=by cases r<;>first|rfl|assumption
theorem oneCells_D{h:Mem}:∀{xs:List X}{vs:List Value},All2 (RepD h) xs vs→∀q∈vs,q.oneCell'=true
 |[],[],_,q,hq=>by cases hq
 |_::_,v::vs,h,q,hq=>by
  rcases List.mem_cons.1 hq with rfl|hq
  ·exact oneCell_D h.1
  ·exact oneCells_D h.2 q hq
 |[],_::_,h,_,_=>h.elim
 |_::_,[],h,_,_=>h.elim
theorem S.append{t e sz bytes k n j m:Nat}{rows rows2:List (List X)}(hA:ApI E.P t e sz bytes)(hg:Gd all s guard rg)(hd:(Nat.blt d 1000&&Nat.blt d E.nt)=true)
  (hx:OpS s x (.own k n) r1) (hl:look s (2000+k)=some (.arr sz rows)) (hn:rows.length=n) (hy:OpS s y (.own j m) r2) (hl2:look s (2000+j)=some (.arr sz rows2)) (hm:rows2.length=m) (hbd:(n+m) * bytes≤140737488355328) (hbm:n+m≤maxLen):
  St1 E all ⟨some d,.call {callee:=.builtin .append,args:=#[x,y],argTypes:=#[t,t]},ty,pos,after,guard⟩ s (rg++(r1++([(2000+k,.arr sz rows)]++(r2++[(2000+j,.arr sz rows2)])))) ((d,.own k (n+m))::[(2000+k,.arr sz (rows++rows2))]) []:=by
 have hr2:Looks s (r2++[(2000+j,X.arr sz rows2)]):=hy.looks.app ⟨hl2,trivial⟩
 -- the rows' widths come out of the state itself
 by_cases hw:∀q∈rows2,q.length=sz
 ·refine append_any hA hA.und srcD_sl hg hd hx hl hn hr2 hw hm hbd hbm fun c a w hh hr=>?_
  subst hm
  obtain⟨_,m0,hv,lv,e1,e2,e3⟩:=own_of (hy.rep (c:=c) (a:=a) (w:=w) fun p hp=>hr p (by simp[hp]))
  obtain⟨v,e',vs,g1,g2,g3,g4⟩:=arr_of (hr (2000+j,.arr sz rows2) (by simp))
  rw[e1]at g1
  cases g1
  have hev:=e3 rfl
  refine⟨vs,g4,?_,oneCells_D g4,?_⟩
  ·intro w2
   rw[hev]
   rcases g2.2 with⟨rfl,h0⟩|⟨g,cap,cur,rfl,_⟩
   ·simp[Builtin.lenOf,h0]
   ·simp[Builtin.lenOf]
  ·intro w' hw'
   rw[hev]
   rcases g2.2 with⟨rfl,h0⟩|⟨g,cap,cur,rfl,h1,h2,h3,h4,h5,h6⟩
   ·have:vs=[]:=List.eq_nil_of_length_eq_zero (by rw[g2.1,h0];simp)
    subst this
    simp[Builtin.firstCells]
   ·exact run_firstCells_some w' sz rows2.length ⟨g,0,none⟩ rows2.length cap vs g2.1 fun i u hu=>by rw[hw'];exact g2.cells (g:=g) rfl i u hu
 ·refine⟨?_,hg.looks.app (hx.looks.app (Looks.app (r:=[(2000+k,.arr sz rows)]) ⟨hl,trivial⟩ hr2))⟩
  intro U c a w hb hr
  obtain⟨v,e',vs,g1,g2,g3,g4⟩:=arr_of (hr (2000+j,.arr sz rows2) (by simp))
  exact absurd g3 hw
theorem S.appendSl{t e sz bytes k n m:Nat}{rows rows2:List (List X)}(hA:ApI E.P t e sz bytes)(hg:Gd all s guard rg)(hd:(Nat.blt d 1000&&Nat.blt d E.nt)=true)
  (hx:OpS s x (.own k n) r1) (hl:look s (2000+k)=some (.arr sz rows)) (hn:rows.length=n) (hy:OpS s y (.sl rows2) r2) (hw:∀q∈rows2,q.length=sz) (hm:rows2.length=m) (hbd:(n+m) * bytes≤140737488355328) (hbm:n+m≤maxLen):
  St1 E all ⟨some d,.call {callee:=.builtin .append,args:=#[x,y],argTypes:=#[t,t]},ty,pos,after,guard⟩ s (rg++(r1++([(2000+k,.arr sz rows)]++r2))) ((d,.own k (n+m))::[(2000+k,.arr sz (rows++rows2))]) []:=
 append_any hA hA.und srcD_sl hg hd hx hl hn hy.looks hw hm hbd hbm fun c a w hh hr=>by
  subst hm
  obtain⟨ad,cap,hv,h1,h2,h3⟩:=sl_of (hy.rep (c:=c) (a:=a) (w:=w) hr)
  rcases h3 with rfl|⟨b,off,sz',vs,rfl,h3,h4,h5,h6⟩
  ·refine⟨[],trivial,fun w=>by rw[hv];simp[Builtin.lenOf],(fun q hq=>by cases hq),fun w' hw'=>?_⟩
   rw[hv]
   cases ad with
   |none=>simp[Builtin.firstCells]
   |some ad=>exact run_firstCells_some w' sz 0 ad 0 cap [] (by simp) fun i u hu=>by simp at hu
  ·have ha:All2 (RepD c.h) rows2.flatten vs:=All2.of_get h4 fun i u v hu hv=>h6 i u v hu hv
   refine⟨vs,ha,fun w=>by rw[hv];simp[Builtin.lenOf],oneCells_D ha,fun w' hw'=>?_⟩
   rw[hv]
   exact run_firstCells_some w' sz rows2.length ⟨b,off,none⟩ rows2.length cap vs (by rw[←h4,flatten_length hw]) fun i u hu=>by rw[hw',add_off];exact hh _ _ (h5 i u hu)
theorem Base.freezeT{U:List Nat}{c:Ctx}{a:Act}{w:World}{t k sz:Nat}{rows:List (List X)}(hb:Base E U c a w)(ht:Nat.blt t 1000=true)(hl:Holds c a w t (.own k rows.length))(hl2:Holds c a w (2000+k) (.arr sz rows))(hk9:k∉E.fs):
  ∃c',Base E U c' a w∧Ext c c'∧Holds c' a w t (.sl rows)∧∀key u,2000+k≠key→Holds c a w key u→Holds c' a w key u:=by
 obtain⟨_,m0,hv,lv,e1,e2,e3⟩:=own_of (hl.slot ht)
 obtain⟨v,e',vs,g1,g2,g3,g4⟩:=arr_of hl2
 rw[e1]at g1
 cases g1
 have hev:=e3 rfl
 obtain⟨h',hh'⟩:∃h':Mem,h'=fun p=>if hv.ownBlock=some p.block then w.cell? p else c.h p:=⟨_,rfl⟩
 have hblk:∀b,hv.ownBlock=some b→E.ok k b∧b<w.heap.size∧(∀o,c.h ⟨b,o,none⟩=none)∧(∀k' m' hv',c.arr k'=some (m',hv',true)→hv'.ownBlock=some b→k'=k):=fun b e=>hb.arr k _ _ b e1 e
 have hle:Mem.le c.h h':=by
  intro p u hp
  rw[hh']
  dsimp only
  split
  ·exact hb.hw p u hp
  ·exact hp
 have hin:∀p u,h' p=some u→c.h p=some u∨(hv.ownBlock=some p.block∧w.cell? p=some u):=by
  intro p u hp
  rw[hh']at hp
  dsimp only at hp
  split at hp
  ·exact .inr ⟨‹_›,hp⟩
  ·exact .inl hp
 have hext:Ext c ⟨h',c.loc,fun j=>if j=k then some (rows.length,hv,false)else c.arr j,c.Y⟩:=⟨hle,fun _ _ e=>e,fun j m u lv e=>by
  by_cases hj:j=k
  ·subst hj;rw[e1]at e;cases e;exact⟨_,_,false,if_pos rfl,Nat.le_refl _,fun _=>rfl⟩
  ·exact⟨m,u,lv,(if_neg hj).trans e,Nat.le_refl _,fun _=>rfl⟩⟩
 have harr:∀j m u,(if j=k then some (rows.length,hv,false)else c.arr j)=some (m,u,true)→j≠k∧c.arr j=some (m,u,true):=by
  intro j m u hj
  split at hj
  ·cases hj
  ·exact⟨‹_›,hj⟩
 have hall:∀b,b<w.heap.size→(Ctx.mk h' c.loc (fun j=>if j=k then some (rows.length,hv,false)else c.arr j) c.Y).all b→c.all b:=by
  intro b _ ho
  rcases ho with hy|h|⟨j,m,u,h2,h3⟩
  ·exact .inl hy
  ·exact .inr (.inl h)
  ·exact .inr (.inr ⟨j,m,u,(harr j m u h2).2,h3⟩)
 have hwn:∀p u,h' p=some u→w.cell? p=some u:=by
  intro p u hp
  rcases hin p u hp with h|h
  ·exact hb.hw p u h
  ·exact h.2
 refine⟨⟨h',c.loc,fun j=>if j=k then some (rows.length,hv,false)else c.arr j,c.Y⟩,⟨hb.below,hb.hB,hb.nt,dfr_of hb hall (fun _ _ h _=>h),pin_of hb hall (fun _ _ h _=>h),hwn,Mem.le_trans hb.hle hle,?_,?_,?_,?_,?_,hb.loc0,?_⟩,hext,?_,?_⟩
 ·intro p u hp
  rcases hin p u hp with h|h
  ·exact hb.hnew p u h
  ·exact .inr (.inl (Env.ok_own (hblk _ h.1).1 hk9))
 ·intro j b hj
  obtain⟨h1,h2,h3,h4,h5⟩:=hb.loc j b hj
  refine⟨h1,h2,fun o=>?_,h4,fun k' m u hk'=>h5 k' m u (harr _ _ _ hk').2⟩
  cases hq:h' ⟨b,o,none⟩with
  |none=>exact hq
  |some u=>
   rcases hin _ _ hq with h|h
   ·rw[h3 o]at h;cases h
   ·exact absurd h.1 (h5 _ _ _ e1)
 ·intro j m u b hj hbk
  obtain⟨hjk,hj⟩:=harr j m u hj
  obtain⟨h1,h2,h3,h4⟩:=hb.arr j m u b hj hbk
  refine⟨h1,h2,fun o=>?_,fun k' m' u' hk' hb'=>h4 k' m' u' (harr _ _ _ hk').2 hb'⟩
  cases hq:h' ⟨b,o,none⟩with
  |none=>exact hq
  |some u=>
   rcases hin _ _ hq with h|h
   ·rw[h3 o]at h;cases h
   ·exact absurd ((hblk b h.1).2.2.2 j m _ hj hbk) hjk
 ·intro j hj
  refine⟨(hb.used j hj).1,?_⟩
  dsimp only
  split
  ·rename_i e;subst e;have:=(hb.used _ hj).2;rw[e1]at this;cases this
  ·exact(hb.used j hj).2
 ·intro b hy
  obtain⟨h1,h2,h3,h4⟩:=hb.Y b hy
  exact⟨h1,h2,h3,fun j m u hj e=>h4 j m u (harr j m u hj).2 e⟩
 ·intro j m u lv hj e
  exact hb.arr0 j m u lv hj ((if_neg (show¬j=k from fun e=>hk9 (e▸hj))).symm.trans e)
 ·rw[Nat.blt_eq]at ht
  unfold Holds
  rw[if_pos ht,hev]
  refine RepD.toT (c:=⟨h',c.loc,_,c.Y⟩) (RepD.of_owns g2 g3 g4 hle fun b o hbk=>?_)
  rw[hh']
  dsimp only
  rw[if_pos hbk]
 ·intro key u hne h0
  unfold Holds at h0⊢
  split at h0
  ·rename_i hlt;rw[if_pos hlt];exact h0.mono hext
  ·rename_i hlt
   rw[if_neg hlt]
   refine or_snd h0 fun h0=>?_
   split at h0
   ·rename_i h2
    rw[if_pos h2]
    obtain⟨b,o,f1,f2,f3⟩:=h0
    exact⟨b,o,f1,f2,f3.mono hext⟩
   ·rename_i h2
    rw[if_neg h2]
    split at h0
    ·rename_i h6
     rw[if_pos h6]
     obtain⟨sz2,rows2,hv2,e2',vs2,f4,f1,f2,f3⟩:=h0
     have hj:key - 2000≠k:=by omega
     generalize key - 2000=j at f1 hj
     exact⟨sz2,rows2,hv2,e2',vs2,f4.mono hext,(if_neg hj).trans f1,f2,f3⟩
    ·rename_i h6
     rw[if_neg h6]
     obtain⟨hk0,J,hx0,hJ,hJ2⟩:=h0
     exact⟨hk0,J,hx0,hJ,hJ _ _ _ _ _ hJ2 hle (fun p v e=>(hin p v e).imp id fun h hy=>(hb.Y _ hy).2.2.2 _ _ _ e1 h.1) hwn (BelX.refl _ _ _) fun _ _=>rfl⟩
theorem Good.freeze{U:List Nat}{a:Act}{w:World}{t k n sz:Nat}{rows:List (List X)}(hg:Good E U s a w)(ht:Nat.blt t 1000=true)(hl:look s t=some (.own k n))(hl2:look s (2000+k)=some (.arr sz rows))(hn:rows.length=n)(hk9:k∉E.fs):
  Good E U ((t,.sl rows)::(2000+k,.any)::s) a w:=by
 subst hn
 obtain⟨c,hb,hh⟩:=hg
 obtain⟨c',q1,q2,q3,q4⟩:=hb.freezeT ht (hh _ _ hl) (hh _ _ hl2) hk9
 refine⟨c',q1,fun key x hx=>?_⟩
 simp only[look]at hx
 split at hx
 ·rename_i hk
  have:=Nat.eq_of_beq_eq_true hk
  cases hx
  subst this
  exact q3
 ·split at hx
  ·rename_i hk
   have:=Nat.eq_of_beq_eq_true hk
   cases hx
   subst this
   unfold Holds
   rw[if_neg (by omega)]
   exact .inl rfl
  ·rename_i hk
   exact q4 key x (fun e=>hk (by rw[e];exact Nat.beq_refl key)) (hh key x hx)
theorem OK.freeze{U:List Nat}{code:Code}{Q:Exit→List Nat→St→Prop}(t:Nat){k n sz:Nat}{rows:List (List X)}(ht:Nat.blt t 1000=true)(hl:look s t=some (.own k n))(hl2:look s (2000+k)=some (.arr sz rows))(hn:rows.length=n)
 (h:OK E code Q U ((t,.sl rows)::(2000+k,.any)::s)) (hk9:E.fs.contains k=false:=by rfl):OK E code Q U s:=fun a w hg=>h a w (hg.freeze ht hl hl2 hn (nfs hk9))
end
end Go.Ab
