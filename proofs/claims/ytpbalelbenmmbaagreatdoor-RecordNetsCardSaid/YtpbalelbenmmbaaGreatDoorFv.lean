import Derived.Shelf.Spec.SlicesGrow
import Derived.Test.YtpbalelbenmmbaaGreatDoorFs
namespace Go.Ab
open Go.RowKit
def CtO(P:Program)(f:Nat)(args:List X)(sz:Nat)(rows:List (List X)):Prop:=
 ∀(h:Mem)(w:World)(vs:List Value),(∀p v,h p=some v→w.cell? p=some v)→All2 (RepV (pureC h)) args vs→
  Calls P f vs.toArray w fun en w'=>∃v h' e us,en=.returned v∧Below w.heap.size w w'∧Mem.le h h'∧(∀p v,h' p=some v→h p=some v∨w.heap.size≤p.block)∧(∀p v,h' p=some v→w'.cell? p=some v)∧
   w'.ownsRow 0 e sz v rows.length us∧(∀q∈rows,q.length=sz)∧All2 (RepD h') rows.flatten us∧(∀b,v.ownBlock=some b→w.heap.size≤b∧∀o,h' ⟨b,o,none⟩=none)
def RetO(E:Env)(t sz:Nat)(rows:List (List X)):Exit→List Nat→St→Prop:=fun e _ s=>(e=.ret∨e=.normal)∧
 ∃k n,look s t=some (.own k n)∧Nat.blt t 1000=true∧look s (2000+k)=some (.arr sz rows)∧rows.length=n∧E.fs.contains k=false
theorem RetO.mk{E:Env}{U:List Nat}{s:St}{t k n sz:Nat}{rows rows':List (List X)}(hl:look s t=some (.own k n))(ht:Nat.blt t 1000=true)(ha:look s (2000+k)=some (.arr sz rows'))(hn:rows'.length=n)(he:rows'=rows)(hk9:E.fs.contains k=false:=by rfl):
  RetO E t sz rows .ret U s:=by
 subst he
 exact⟨.inl rfl,k,n,hl,ht,ha,hn,hk9⟩
theorem CtO.intro{P:Program}{f nt t sz:Nat}{fn:Func}{code:Code}{args:List X}{rows:List (List X)}(hf:P.funcs[f]?=some fn)(hb:fn.body=some code)(hn:fn.ntmps=nt)(hr:fn.results= #[.tmp t])
  (hl:Nat.ble args.length nt=true) (ht:args.all (fun x=>!isTup x)=true) (hl2:Nat.ble args.length 1000=true)
  (h:∀w c,OK (mkE P nt [] w c) code (den (mkE P nt [] w c) (RetO (mkE P nt [] w c) t sz rows) []) [] (argSt 0 args)):CtO P f args sz rows:=by
 intro h0 w vs hw hargs
 refine(callsIn_wide (n:=0)).1 (callsIn_of_wp_marks hf hb trivial ?_ rfl)
 have hlen:=hargs.length
 rw[Nat.ble_eq]at hl hl2
 have hno:∀b,¬(pureC h0).out [] b:=by
  rintro b (hy|⟨k,_,e⟩|⟨k,m,hv,_,e,_⟩)
  ·exact hy
  ·cases e
  ·cases e
 refine wpIn_mono (h w (pureC h0) {tmps:=vs.toArray++Array.replicate (fn.ntmps - vs.toArray.size) undef,defers:=[]} w ?_) ?_
 ·refine⟨pureC h0,⟨BelX.refl _ _ _,Nat.le_refl _,?_,⟨.nil,fun d hd=>by cases hd⟩,(fun p hp=>by cases hp),hw,Mem.le_refl _,fun p v e=>.inl e,(fun k b e=>by cases e),(fun k m hv b e=>by cases e),(fun _ _=>⟨rfl,rfl⟩),(fun b e=>e.elim),(fun k b _ e=>by cases e),(fun k m hv lv _ e=>by cases e)⟩,fun key x hx=>slots_start hargs ht hl2 key x hx⟩
  simp[hn];omega
 ·rintro e a' w' ⟨U',s',⟨c,hbase,hh⟩,he,k,n,l1,l2,l3,l4,l5⟩
  have post:LeavesInM Fence.wide 0 P fn a'.tmps (fun en w'=>∃v h' e us,en=.returned v∧Below w.heap.size w w'∧Mem.le h0 h'∧(∀p v,h' p=some v→h0 p=some v∨w.heap.size≤p.block)∧(∀p v,h' p=some v→w'.cell? p=some v)∧
    w'.ownsRow 0 e sz v rows.length us∧(∀q∈rows,q.length=sz)∧All2 (RepD h') rows.flatten us∧(∀b,v.ownBlock=some b→w.heap.size≤b∧∀o,h' ⟨b,o,none⟩=none)) a'.defers .returning w':=by
   refine leaves_marks (B:=w.heap.size) (Z:=c.all) a'.defers w' hbase.dfr.1 ?_ ?_
   ·intro d hd
    obtain⟨D,h1,h2,h3,h4⟩:=hbase.dfr.2 d hd
    exact⟨D,h1,h2,h3,h4⟩
   ·intro w2 e1 e2 e3 e4 e5 e6
    obtain⟨hbase,hh⟩:=hbase.calm hh e1 e2 e3 e4 rfl e5 e6
    obtain⟨_,m,hv',lv,q1,q2,q3⟩:=own_of ((hh t _ l1).slot l2)
    obtain⟨v,e',us,g1,g2,g3,g4⟩:=arr_of (hh _ _ l3)
    rw[g1]at q1
    cases q1
    have hev:=q3 l4.symm
    have hrun:(results fn a'.tmps).run P w2=.ok (a'.tmps.getD t undef) w2:=by
     have he:results fn a'.tmps=(fn.results.mapM (resSem a'.tmps)>>=fun vs=>pure (if h:vs.size=1 then vs[0]else .tuple vs)):=by
      unfold results
      congr 1
     rw[he,hr,Array.mapM_eq_mapM_toList]
     simp[resSem]
    refine⟨_,hrun,hv',c.h,e',us,by rw[show a'.tmps.getD t undef=hv' from hev],(hbase.below.mono (Nat.le_refl _) fun k _ hk=>?_).below,hbase.hle,fun p v hp=>(hbase.hnew p v hp).imp id fun q=>q.elim id fun q=>q.elim (fun q=>(hno _ q).elim) fun⟨_,q,_⟩=>(by cases q),hbase.hw,g2,g3,g4,fun b hbk=>?_⟩
    ·rcases hk with hk|⟨p,hp,_⟩
     ·exact(hno k hk).elim
     ·cases hp
    ·obtain⟨r1,_,r3,_⟩:=hbase.arr k _ hv' b g1 hbk
     exact⟨Env.ok_own r1 (nfs l5),r3⟩
  rcases he with rfl|rfl
  ·exact post
  ·exact post
end Go.Ab
namespace Go.Ab
open Go.RowKit
def hasB(t:St)(k:Nat):Bool:=t.any fun p=>Nat.beq p.1 (1000+k)&&(match p.2 with
 |.box _=>true
 |.omap _=>true
 |_=>false)
def hasA(t:St)(k:Nat):Bool:=t.any fun p=>Nat.beq p.1 (2000+k)&&(match p.2 with
 |.arr _ _=>true
 |.arrn _ _ _ _=>true
 |_=>false)
def isBX:X→Bool
 |.box _=>true
 |.omap _=>true
 |_=>false
def isAX:X→Bool
 |.arr _ _=>true
 |.arrn _ _ _ _=>true
 |_=>false
theorem boxes_of{c:Ctx}{a:Act}{w:World}{k:Nat}{x:X}(h:Holds c a w (1000+k) x)(hx:isBX x=true)(hk:k<1000):∃b,c.loc k=some b:=by
 unfold Holds at h
 rw[if_neg (by omega),if_pos (by omega),Nat.add_sub_cancel_left]at h
 rcases h with rfl|⟨b,o,h1,_⟩
 ·cases hx
 ·exact⟨b,h1⟩
theorem arrs_of{c:Ctx}{a:Act}{w:World}{k:Nat}{x:X}(h:Holds c a w (2000+k) x)(hx:isAX x=true):∃p,c.arr k=some p:=by
 unfold Holds at h
 by_cases hk:k<1000
 ·rw[if_neg (by omega),if_neg (by omega),if_pos (by omega),Nat.add_sub_cancel_left]at h
  rcases h with rfl|⟨sz',rows',hv,e,vs,_,h1,_⟩
  ·cases hx
  ·exact⟨_,h1⟩
 ·rw[if_neg (by omega),if_neg (by omega),if_neg (by omega)]at h
  rcases h with rfl|⟨_,J,hJ,_⟩
  ·cases hx
  ·cases x<;>first|exact False.elim hJ|cases hx
theorem hasB_mem{t:St}{k:Nat}(h:hasB t k=true):∃x,isBX x=true∧(1000+k,x)∈t:=by
 unfold hasB at h
 rw[List.any_eq_true]at h
 obtain⟨⟨i,x⟩,h1,h2⟩:=h
 simp only[Bool.and_eq_true]at h2
 have h3:=Nat.eq_of_beq_eq_true h2.1
 subst h3
 cases x<;>first|exact⟨_,rfl,h1⟩|(have h4:=h2.2;cases h4)
theorem hasA_mem{t:St}{k:Nat}(h:hasA t k=true):∃x,isAX x=true∧(2000+k,x)∈t:=by
 unfold hasA at h
 rw[List.any_eq_true]at h
 obtain⟨⟨i,x⟩,h1,h2⟩:=h
 simp only[Bool.and_eq_true]at h2
 have h3:=Nat.eq_of_beq_eq_true h2.1
 subst h3
 cases x<;>first|exact⟨_,rfl,h1⟩|(have h4:=h2.2;cases h4)
def Ctx.lend(c:Ctx)(fs:List Nat)(t:St):Ctx:=⟨c.h,fun k=>if(fs.contains k&&hasB t k)=true then c.loc k else none,fun k=>if(fs.contains k&&hasA t k)=true then c.arr k else none,fun _=>False⟩
theorem lend_loc{c:Ctx}{fs:List Nat}{t:St}{k b:Nat}(e:(c.lend fs t).loc k=some b):k∈fs∧hasB t k=true∧c.loc k=some b:=by
 simp only[Ctx.lend]at e
 split at e
 ·rename_i h
  rw[Bool.and_eq_true]at h
  exact⟨List.contains_iff_mem.1 h.1,h.2,e⟩
 ·cases e
theorem lend_arr{c:Ctx}{fs:List Nat}{t:St}{k:Nat}{x:Nat×Value×Bool}(e:(c.lend fs t).arr k=some x):k∈fs∧hasA t k=true∧c.arr k=some x:=by
 simp only[Ctx.lend]at e
 split at e
 ·rename_i h
  rw[Bool.and_eq_true]at h
  exact⟨List.contains_iff_mem.1 h.1,h.2,e⟩
 ·cases e
theorem lend_loc_of{c:Ctx}{fs:List Nat}{t:St}{k:Nat}(h1:k∈fs)(h2:hasB t k=true):(c.lend fs t).loc k=c.loc k:=by
 simp only[Ctx.lend]
 rw[if_pos (by rw[Bool.and_eq_true];exact⟨List.contains_iff_mem.2 h1,h2⟩)]
theorem lend_arr_of{c:Ctx}{fs:List Nat}{t:St}{k:Nat}(h1:k∈fs)(h2:hasA t k=true):(c.lend fs t).arr k=c.arr k:=by
 simp only[Ctx.lend]
 rw[if_pos (by rw[Bool.and_eq_true];exact⟨List.contains_iff_mem.2 h1,h2⟩)]
def lendP(fs:List Nat)(t:St):X→Bool
 |.ptr k _=>fs.contains k&&hasB t k
 |.own k _=>fs.contains k&&hasA t k
 |.optr k _ _=>fs.contains k&&hasA t k
 |.mptr k=>fs.contains k&&hasB t k
 |.ownp k _ _ _ _=>fs.contains k&&hasA t k
 |_=>true
def lendC(fs:List Nat)(t:St):X→Bool
 |.fn _ caps=>caps.all (lendP fs t)
 |x=>lendP fs t x
def lendKey(fs:List Nat)(t:St)(p:Nat×X):Bool:=match p.2 with
 |.box cells=>Nat.ble 1000 p.1&&Nat.blt p.1 2000&&fs.contains (p.1 - 1000)&&hasB t (p.1 - 1000)&&cells.all (lendC fs t)
 |.arr _ _=>Nat.ble 2000 p.1&&Nat.blt p.1 3000&&fs.contains (p.1 - 2000)&&hasA t (p.1 - 2000)
 |.arrn _ _ mid _=>Nat.ble 2000 p.1&&Nat.blt p.1 3000&&fs.contains (p.1 - 2000)&&hasA t (p.1 - 2000)&&mid.all (lendC fs t)
 |.omap _=>Nat.ble 1000 p.1&&Nat.blt p.1 2000&&fs.contains (p.1 - 1000)&&hasB t (p.1 - 1000)
 |_=>false
theorem RepP.lend{c:Ctx}{fs:List Nat}{t:St}{x:X}{v:Value}(h:RepP c x v)(ho:lendP fs t x=true):RepP (c.lend fs t) x v:=by
 cases x
 case ptr k off=>
  obtain⟨b,h1,h2⟩:=h
  simp only[lendP,Bool.and_eq_true]at ho
  exact⟨b,(lend_loc_of (List.contains_iff_mem.1 ho.1) ho.2).trans h1,h2⟩
 case own k n=>
  obtain⟨h0,m,hv,lv,h1,h2⟩:=h
  simp only[lendP,Bool.and_eq_true]at ho
  exact⟨h0,m,hv,lv,(lend_arr_of (List.contains_iff_mem.1 ho.1) ho.2).trans h1,h2⟩
 case optr k n off=>
  obtain⟨m,hv,lv,h1,h2⟩:=h
  simp only[lendP,Bool.and_eq_true]at ho
  exact⟨m,hv,lv,(lend_arr_of (List.contains_iff_mem.1 ho.1) ho.2).trans h1,h2⟩
 case mptr k=>
  obtain⟨b,h1,h2⟩:=h
  simp only[lendP,Bool.and_eq_true]at ho
  exact⟨b,(lend_loc_of (List.contains_iff_mem.1 ho.1) ho.2).trans h1,h2⟩
 case ownp k n sz lo hi=>
  obtain⟨h0,m,hv,lv,h1,h2⟩:=h
  simp only[lendP,Bool.and_eq_true]at ho
  exact⟨h0,m,hv,lv,(lend_arr_of (List.contains_iff_mem.1 ho.1) ho.2).trans h1,h2⟩
 all_goals exact h
theorem RepC.lend{c:Ctx}{fs:List Nat}{t:St}{x:X}{v:Value}(h:RepC c x v)(ho:lendC fs t x=true):RepC (c.lend fs t) x v:=by
 cases x
 case fn f caps=>obtain⟨vs,h1,h2⟩:=h;exact⟨vs,h1,All2.cut (R':=RepP (c.lend fs t)) (ok:=lendP fs t) (fun _ _ h ho=>RepP.lend h ho) h2 ho⟩
 all_goals (simp only[RepC,lendC]at h ho⊢;exact RepP.lend h ho)
theorem Holds.lend{c:Ctx}{fs:List Nat}{t:St}{w:World}{key:Nat}{x:X}{a a':Act}(h:Holds c a w key x)(ho:lendKey fs t (key,x)=true):Holds (c.lend fs t) a' w key x:=by
 unfold lendKey at ho
 cases x
 case box cells=>
  simp only[Bool.and_eq_true,Nat.ble_eq,Nat.blt_eq]at ho
  obtain⟨⟨⟨⟨h1,h2⟩,h3⟩,h4⟩,h5⟩:=ho
  unfold Holds at h⊢
  rw[if_neg (by omega)]at h⊢
  refine or_snd h fun h=>?_
  rw[if_pos h2]at h⊢
  obtain⟨b,o,q1,q2,T,vs,e,q3⟩:=h
  exact⟨b,o,(lend_loc_of (List.contains_iff_mem.1 h3) h4).trans q1,q2,T,vs,e,All2.cut (R':=RepC (c.lend fs t)) (ok:=lendC fs t) (fun _ _ h ho=>RepC.lend h ho) q3 h5⟩
 case omap es=>
  simp only[Bool.and_eq_true,Nat.ble_eq,Nat.blt_eq]at ho
  obtain⟨⟨⟨h1,h2⟩,h3⟩,h4⟩:=ho
  unfold Holds at h⊢
  rw[if_neg (by omega)]at h⊢
  refine or_snd h fun h=>?_
  rw[if_pos h2]at h⊢
  obtain⟨b,o,q1,q2,q3⟩:=h
  exact⟨b,o,(lend_loc_of (List.contains_iff_mem.1 h3) h4).trans q1,q2,q3⟩
 case arrn sz pre mid post=>
  simp only[Bool.and_eq_true,Nat.ble_eq,Nat.blt_eq]at ho
  obtain⟨⟨⟨⟨h1,h2⟩,h3⟩,h4⟩,h5⟩:=ho
  unfold Holds at h⊢
  rw[if_neg (by omega)]at h⊢
  refine or_snd h fun h=>?_
  rw[if_neg (by omega),if_pos h2]at h⊢
  obtain⟨sz',rows',hv,e,vs,⟨e1,e2,v1,v2,v3,e3,e4,e5,e6⟩,q1,q2⟩:=h
  exact⟨sz',rows',hv,e,vs,⟨e1,e2,v1,v2,v3,e3,e4,All2.cut (R':=RepC (c.lend fs t)) (ok:=lendC fs t) (fun _ _ h ho=>RepC.lend h ho) e5 h5,e6⟩,(lend_arr_of (List.contains_iff_mem.1 h3) h4).trans q1,q2⟩
 case arr sz rows=>
  simp only[Bool.and_eq_true,Nat.ble_eq,Nat.blt_eq]at ho
  obtain⟨⟨⟨h1,h2⟩,h3⟩,h4⟩:=ho
  unfold Holds at h⊢
  rw[if_neg (by omega)]at h⊢
  refine or_snd h fun h=>?_
  rw[if_neg (by omega),if_pos h2]at h⊢
  obtain⟨sz',rows',hv,e,vs,e1,q1,q2⟩:=h
  exact⟨sz',rows',hv,e,vs,e1,(lend_arr_of (List.contains_iff_mem.1 h3) h4).trans q1,q2⟩
 all_goals cases ho
structure LentOk(fs:List Nat)(t0:St)(cL c:Ctx)(h:Mem)(Y:Nat→Prop)(w:World):Prop where
 hh:c.h=h
 ok:CtxOk fs c w
 Y:∀b,Y b↔c.out fs b
 loc:∀k b,c.loc k=some b→hasB t0 k=true
 arr:∀k x,c.arr k=some x→hasA t0 k=true
 ext:Ext cL c
def LentJ(fs:List Nat)(t0:St)(cL:Ctx)(t:St):Mem→(Nat→Prop)→World→Prop:=fun h Y w=>∃c,LentOk fs t0 cL c h Y w∧∀p∈t,∀a,Holds c a w p.1 p.2
theorem LentJ.stable{fs:List Nat}{t0:St}{cL:Ctx}{t:St}(ht:t.all (hiKey fs)=true):Stable (LentJ fs t0 cL t):=by
 rintro h h' Y w w' ⟨c,hl,hp⟩ hle hnew hw' hB hX
 have hhc:=hl.hh
 subst hhc
 have none_of:∀b o,c.out fs b→c.h ⟨b,o,none⟩=none→h' ⟨b,o,none⟩=none:=by
  intro b o ho hn
  cases hh:h' ⟨b,o,none⟩with
  |none=>rfl
  |some v=>
   rcases hnew _ _ hh with h|h
   ·rw[hn]at h;cases h
   ·exact absurd ((hl.Y b).2 ho) h
 refine⟨c.pub fs h',⟨rfl,⟨hw',?_,?_,?_,?_⟩,?_,fun k b hk=>hl.loc k b (pub_loc hk).2,fun k x hk=>hl.arr k x (pub_arr hk).2,hl.ext.trans ⟨hle,?_,?_⟩⟩,fun p hp' a=>?_⟩
 ·intro k b hk
  obtain⟨hk0,hk1⟩:=pub_loc hk
  obtain⟨h1,h2,h3,h4,h5⟩:=hl.ok.loc k b hk1
  exact⟨h1,Nat.lt_of_lt_of_le h2 hB.size,fun o=>none_of b o (.inr (.inl ⟨k,h1,hk1⟩)) (h3 o),fun k' hk'=>h4 k' (pub_loc hk').2,fun k' m hv hk'=>h5 k' m hv (pub_arr hk').2⟩
 ·intro k m hv b hk hbk
  obtain⟨hk0,hk1⟩:=pub_arr hk
  obtain⟨h1,h2,h3,h4⟩:=hl.ok.arr k m hv b hk1 hbk
  exact⟨h1,Nat.lt_of_lt_of_le h2 hB.size,fun o=>none_of b o (.inr (.inr ⟨k,m,hv,h1,hk1,hbk⟩)) (h3 o),fun k' m' hv' hk'=>h4 k' m' hv' (pub_arr hk').2⟩
 ·intro k hk
  have hk':fs.contains k=false:=by simpa using hk
  simp only[Ctx.pub,hk']
  exact⟨rfl,rfl⟩
 ·intro b hy
  obtain⟨h1,h2,h3⟩:=hl.ok.Y b hy
  exact⟨Nat.lt_of_lt_of_le h1 hB.size,fun k hk=>h2 k (pub_loc hk).2,fun k m hv hk=>h3 k m hv (pub_arr hk).2⟩
 ·intro b
  refine⟨fun hy=>?_,fun ho=>(hl.Y b).2 (pub_out ho)⟩
  rcases(hl.Y b).1 hy with hy|⟨k,h1,h2⟩|⟨k,m,hv,h1,h2,h3⟩
  ·exact .inl hy
  ·exact .inr (.inl ⟨k,h1,by simp only[Ctx.pub];rw[if_pos (List.contains_iff_mem.2 h1)];exact h2⟩)
  ·exact .inr (.inr ⟨k,m,hv,h1,by simp only[Ctx.pub];rw[if_pos (List.contains_iff_mem.2 h1)];exact h2,h3⟩)
 ·intro k b hk
  simp only[Ctx.pub]
  rw[if_pos (List.contains_iff_mem.2 (hl.ok.loc k b hk).1)]
  exact hk
 ·intro k m hv lv hk
  refine⟨m,hv,lv,?_,Nat.le_refl _,fun _=>rfl⟩
  simp only[Ctx.pub]
  by_cases hf:k∈fs
  ·rw[if_pos (List.contains_iff_mem.2 hf)];exact hk
  ·have:=(hl.ok.none k hf).2;rw[hk]at this;cases this
 ·exact Holds.pub hle (fun p v hv=>(hnew p v hv).imp id fun hn hy=>hn ((hl.Y _).2 (.inl hy))) hw' hB (fun b hb=>hX b ((hl.Y b).2 hb)) (hp p hp' a) (List.all_eq_true.1 ht p hp')
def cover(fs:List Nat)(t0 t:St):Bool:=fs.all fun k=>Nat.blt k 1000&&(!hasB t0 k||hasB t k)&&(!hasA t0 k||hasA t k)
theorem cover_of{fs:List Nat}{t0 t:St}(h:cover fs t0 t=true){k:Nat}(hk:k∈fs):k<1000∧(hasB t0 k=true→hasB t k=true)∧(hasA t0 k=true→hasA t k=true):=by
 have h1:=List.all_eq_true.1 h k hk
 simp only[Bool.and_eq_true,Nat.blt_eq,Bool.or_eq_true,Bool.not_eq_true']at h1
 refine⟨h1.1.1,fun h2=>?_,fun h2=>?_⟩
 ·rcases h1.1.2 with h3|h3
  ·rw[h2]at h3;cases h3
  ·exact h3
 ·rcases h1.2 with h3|h3
  ·rw[h2]at h3;cases h3
  ·exact h3
theorem ext_lent{fs:List Nat}{t0 t':St}{cL c c':Ctx}{h:Mem}{Y:Nat→Prop}{w w':World}{res:X}{u:Value}(hl:LentOk fs t0 cL c h Y w)(hpg:PostG fs c w t' res u c' w')(hcov:cover fs t0 t'=true):Ext c c':=by
 refine⟨hpg.le,fun k b e=>?_,fun k m hv lv e=>?_⟩
 ·have hk:=(hl.ok.loc k b e).1
  obtain⟨h1,h2,_⟩:=cover_of hcov hk
  obtain⟨x0,hx0,hm⟩:=hasB_mem (h2 (hl.loc k b e))
  obtain⟨b',q1⟩:=boxes_of (hpg.wr _ hm {tmps:=#[],defers:=[]}) hx0 h1
  have:=hpg.loc k b' q1
  rw[e]at this
  cases this
  exact q1
 ·have hk:k∈fs:=by
   by_cases hf:k∈fs
   ·exact hf
   ·have:=(hl.ok.none k hf).2;rw[e]at this;cases this
  obtain⟨h1,_,h2⟩:=cover_of hcov hk
  obtain⟨x0,hx0,hm⟩:=hasA_mem (h2 (hl.arr k _ e))
  obtain⟨⟨_,_,_⟩,q1⟩:=arrs_of (hpg.wr _ hm {tmps:=#[],defers:=[]}) hx0
  obtain⟨m0,hv0,lv0,q2,q3,q4⟩:=hpg.arr k _ _ _ q1
  rw[e]at q2
  cases q2
  exact⟨_,_,_,q1,q3,q4⟩
theorem Pc.toV{c:Ctx}:∀{us:List X}{vs:List Value},All2 (RepP c) us vs→us.all (fun u=>!notCell u)=true→All2 (RepV c) us vs
 |[],[],_,_=>trivial
 |_::_,_::_,h,ho=>by
  simp only[List.all_cons,Bool.and_eq_true,Bool.not_eq_true']at ho
  exact⟨P.toV h.1 ho.1,Pc.toV h.2 (by simpa using ho.2)⟩
 |[],_::_,h,_=>h.elim
 |_::_,[],h,_=>h.elim
theorem cb_of_G{P:Program}{f:Nat}{fs:List Nat}{ys caps:List X}{res:X}{t0 t t':St}{cL:Ctx}{v0:Value}(hf:CtG P f fs (ys++caps) t t' res)(hcall:∀args w,(callFunc f args).run P w=.ok (.enter f args) w)(hs:scal res=true)
  (hv:RepC cL (.fn f caps) v0) (hc3:caps.all (fun u=>!notCell u)=true) (hcov:cover fs t0 t'=true):CbOk P v0 ys res (LentJ fs t0 cL t) (LentJ fs t0 cL t'):=by
 intro h Y w vs hw hY hJ hargs
 obtain⟨c,hl,hp⟩:=hJ
 have hhc:=hl.hh
 subst hhc
 obtain⟨cvs,e0,hcv⟩:=hv.mono hl.ext
 refine .inl ⟨f,#[],cvs.toArray,e0,hcall,?_⟩
 have hargs2:All2 (RepV c) (ys++caps) (vs++cvs):=(hargs.mono fun _ _=>RepV.mono (pure_ext rfl)).append (Pc.toV hcv hc3)
 have h1:=hf c w (vs++cvs) hl.ok (fun p hp' a=>hp p hp' a) hargs2
 have e:(vs++cvs).toArray= #[]++vs.toArray++cvs.toArray:=by simp
 rw[e]at h1
 refine h1.mono ?_
 rintro en w' ⟨u,c',rfl,hpg⟩
 refine⟨u,c'.h,fun b=>c'.out fs b,rfl,⟨hpg.below.mono (Nat.le_refl _) fun k _ hk=>(hl.Y k).2 hk,hpg.le,(fun p v hp=>(hpg.new p v hp).imp id fun q=>q.imp id fun q=>(hl.Y _).2 q),hpg.ok.hw,?_,fun b hb hlt=>(hl.Y b).2 (hpg.out b hb hlt)⟩,⟨c',⟨rfl,hpg.ok,fun b=>Iff.rfl,fun k b hk=>hl.loc k b (hpg.loc k b hk),fun k x hk=>?_,hl.ext.trans (ext_lent hl hpg hcov)⟩,hpg.wr⟩,scal_any hs hpg.res⟩
 ·rintro b (hy|⟨k,h1,h2⟩|⟨k,m,hv,h1,h2,h3⟩)
  ·exact(hpg.ok.Y b hy).1
  ·exact(hpg.ok.loc k b h2).2.1
  ·exact(hpg.ok.arr k m hv b h2 h3).2.1
 ·obtain⟨m,hv,lv⟩:=x
  obtain⟨m0,hv0,lv0,q,_⟩:=hpg.arr k m hv lv hk
  exact hl.arr k _ q
theorem All2.split1{α β:Type}{R:α→β→Prop}:∀{us:List α}{z:α}{bs:List β},All2 R (us++[z]) bs→∃bs' b,bs=bs'++[b]∧All2 R us bs'∧R z b
 |[],z,[b],h=>⟨[],b,rfl,trivial,h.1⟩
 |[],_,[],h=>h.elim
 |[],_,_::_::_,h=>h.2.elim
 |_::_,z,[],h=>h.elim
 |a::us,z,b::bs,h=>by
  obtain⟨bs',b',rfl,h1,h2⟩:=All2.split1 h.2
  exact⟨b::bs',b',rfl,⟨h.1,h1⟩,h2⟩
def Ctx.back(c c3:Ctx)(fs:List Nat)(t:St):Ctx:=⟨c3.h,fun k=>if(fs.contains k&&hasB t k)=true then c3.loc k else c.loc k,fun k=>if(fs.contains k&&hasA t k)=true then c3.arr k else c.arr k,c.Y⟩
section
variable{E:Env}{U:List Nat}{c c2 c3:Ctx}{a:Act}{w w':World}{fs:List Nat}{t:St}
theorem lend_out{b:Nat}(h:(c.lend fs t).out fs b):(∃k,k∈fs∧hasB t k=true∧c.loc k=some b)∨∃k m hv,k∈fs∧hasA t k=true∧c.arr k=some (m,hv,true)∧hv.ownBlock=some b:=by
 rcases h with h|⟨k,h1,h2⟩|⟨k,m,hv,h1,h2,h3⟩
 ·exact h.elim
 ·obtain⟨_,q2,q3⟩:=lend_loc h2
  exact .inl ⟨k,h1,q2,q3⟩
 ·obtain⟨_,q2,q3⟩:=lend_arr h2
  exact .inr ⟨k,m,hv,h1,q2,q3,h3⟩
theorem lend_all{b:Nat}(h:(c.lend fs t).out fs b):c.all b:=by
 rcases lend_out h with⟨k,_,_,h⟩|⟨k,m,hv,_,_,h1,h2⟩
 ·exact .inr (.inl ⟨k,h⟩)
 ·exact .inr (.inr ⟨k,m,hv,h1,h2⟩)
theorem lend_ctx(hb:Base E U c a w):CtxOk fs (c.lend fs t) w:=by
 refine⟨hb.hw,fun k b e=>?_,fun k m hv b e hbk=>?_,fun k hk=>?_,fun b hy=>hy.elim⟩
 ·obtain⟨h1,h2,h3⟩:=lend_loc e
  obtain⟨_,q2,q3,q4,q5⟩:=hb.loc k b h3
  exact⟨h1,q2,q3,fun k' hk'=>q4 k' (lend_loc hk').2.2,fun k' m hv hk'=>q5 k' m hv (lend_arr hk').2.2⟩
 ·obtain⟨h1,h2,h3⟩:=lend_arr e
  obtain⟨_,q2,q3,q4⟩:=hb.arr k m hv b h3 hbk
  exact⟨h1,q2,q3,fun k' m' hv' hk'=>q4 k' m' hv' (lend_arr hk').2.2⟩
 ·have hk':fs.contains k=false:=by simpa using hk
  exact⟨by show(if(fs.contains k&&hasB t k)=true then _ else _)=none;rw[hk'];rfl,by show(if(fs.contains k&&hasA t k)=true then _ else _)=none;rw[hk'];rfl⟩
theorem back_loc{k b:Nat}(e:(c.back c3 fs t).loc k=some b):(k∈fs∧hasB t k=true∧c3.loc k=some b)∨(¬(k∈fs∧hasB t k=true)∧c.loc k=some b):=by
 simp only[Ctx.back]at e
 split at e
 ·rename_i h
  rw[Bool.and_eq_true]at h
  exact .inl ⟨List.contains_iff_mem.1 h.1,h.2,e⟩
 ·rename_i h
  exact .inr ⟨fun q=>h (by rw[Bool.and_eq_true];exact⟨List.contains_iff_mem.2 q.1,q.2⟩),e⟩
theorem back_arr{k:Nat}{x:Nat×Value×Bool}(e:(c.back c3 fs t).arr k=some x):(k∈fs∧hasA t k=true∧c3.arr k=some x)∨(¬(k∈fs∧hasA t k=true)∧c.arr k=some x):=by
 simp only[Ctx.back]at e
 split at e
 ·rename_i h
  rw[Bool.and_eq_true]at h
  exact .inl ⟨List.contains_iff_mem.1 h.1,h.2,e⟩
 ·rename_i h
  exact .inr ⟨fun q=>h (by rw[Bool.and_eq_true];exact⟨List.contains_iff_mem.2 q.1,q.2⟩),e⟩
structure Backs(E:Env)(c c3:Ctx)(w w':World)(fs:List Nat)(t:St):Prop where
 dis:∀k∈fs,k∉E.fs
 hask:∀k∈fs,hasB t k=true∨hasA t k=true
 held:∀k∈fs,(hasB t k=true→∃b,c.loc k=some b)∧(hasA t k=true→∃x,c.arr k=some x)
 below:BelX w.heap.size ((c.lend fs t).out fs) w w'
 le:Mem.le c.h c3.h
 new:∀p v,c3.h p=some v→c.h p=some v∨w.heap.size≤p.block∨(c.lend fs t).out fs p.block
 ok:CtxOk fs c3 w'
 old:∀b,c3.out fs b→b<w.heap.size→(c.lend fs t).out fs b
 ext:Ext (c.lend fs t) c3
theorem Backs.keep(hB:Backs E c c3 w w' fs t){b:Nat}(h:¬(c.lend fs t).out fs b)(hlt:b<w.heap.size):w'.heap[b]?=w.heap[b]?:=hB.below.block b hlt h
theorem Backs.ext'(hB:Backs E c c3 w w' fs t):Ext c (c.back c3 fs t):=by
 refine⟨hB.le,fun k b e=>?_,fun k m hv lv e=>?_⟩
 ·simp only[Ctx.back]
  split
  ·rename_i h
   rw[Bool.and_eq_true]at h
   exact hB.ext.loc k b ((lend_loc_of (List.contains_iff_mem.1 h.1) h.2).trans e)
  ·exact e
 ·simp only[Ctx.back]
  split
  ·rename_i h
   rw[Bool.and_eq_true]at h
   exact hB.ext.arr k m hv lv ((lend_arr_of (List.contains_iff_mem.1 h.1) h.2).trans e)
  ·exact⟨m,hv,lv,e,Nat.le_refl _,fun _=>rfl⟩
theorem Base.not_lent_loc(hb:Base E U c a w){k b:Nat}(h:c.loc k=some b)(hn:¬(k∈fs∧hasB t k=true)):¬(c.lend fs t).out fs b:=by
 intro ho
 obtain⟨_,_,_,q4,q5⟩:=hb.loc k b h
 rcases lend_out ho with⟨j,h1,h2,h3⟩|⟨j,m,hv,h1,h2,h3,h4⟩
 ·have:=q4 j h3;subst this;exact hn ⟨h1,h2⟩
 ·exact q5 j m hv h3 h4
theorem Base.not_lent_arr(hb:Base E U c a w){k m b:Nat}{hv:Value}(h:c.arr k=some (m,hv,true))(hbk:hv.ownBlock=some b)(hn:¬(k∈fs∧hasA t k=true)):¬(c.lend fs t).out fs b:=by
 intro ho
 obtain⟨_,_,_,q4⟩:=hb.arr k m hv b h hbk
 rcases lend_out ho with⟨j,h1,h2,h3⟩|⟨j,m',hv',h1,h2,h3,h4⟩
 ·exact(hb.loc j b h3).2.2.2.2 k m hv h hbk
 ·have:=q4 j m' hv' h3 h4;subst this;exact hn ⟨h1,h2⟩
theorem Base.not_lent_Y(hb:Base E U c a w){b:Nat}(h:c.Y b):¬(c.lend fs t).out fs b:=by
 intro ho
 obtain⟨_,_,q3,q4⟩:=hb.Y b h
 rcases lend_out ho with⟨j,h1,h2,h3⟩|⟨j,m,hv,h1,h2,h3,h4⟩
 ·exact q3 j h3
 ·exact q4 j m hv h3 h4
theorem Base.lent_own(hb:Base E U c a w)(hd:∀k∈fs,k∉E.fs){b:Nat}(h:(c.lend fs t).out fs b):E.B≤b:=by
 rcases lend_out h with⟨k,h1,_,h2⟩|⟨k,m,hv,h1,_,h2,h3⟩
 ·exact Env.ok_own (hb.loc k b h2).1 (hd k h1)
 ·exact Env.ok_own (hb.arr k m hv b h2 h3).1 (hd k h1)
theorem Base.back(hb:Base E U c a w)(hB:Backs E c c3 w w' fs t):Base E U (c.back c3 fs t) a w':=by
 have hs:=hB.below.size
 have o3:∀k b,c3.loc k=some b→c3.out fs b:=fun k b e=>.inr (.inl ⟨k,(hB.ok.loc k b e).1,e⟩)
 have a3:∀k m hv b,c3.arr k=some (m,hv,true)→hv.ownBlock=some b→c3.out fs b:=fun k m hv b e e2=>.inr (.inr ⟨k,m,hv,(hB.ok.arr k m hv b e e2).1,e,e2⟩)
 have hnone:∀b o,b<w.heap.size→¬(c.lend fs t).out fs b→c.h ⟨b,o,none⟩=none→c3.h ⟨b,o,none⟩=none:=by
  intro b o hlt hno hn
  cases hh:c3.h ⟨b,o,none⟩with
  |none=>rfl
  |some v=>
   rcases hB.new _ _ hh with h|h|h
   ·rw[hn]at h;cases h
   ·simp only at h;omega
   ·exact absurd h hno
 have hnew3:∀b,c3.out fs b→E.B≤b:=by
  intro b ho
  rcases Nat.lt_or_ge b w.heap.size with h|h
  ·exact hb.lent_own hB.dis (hB.old b ho h)
  ·exact Nat.le_trans hb.hB h
 have hall:∀b,b<w.heap.size→(c.back c3 fs t).all b→c.all b:=by
  intro b hlt h
  rcases h with h|⟨k,h⟩|⟨k,m,hv,h,h2⟩
  ·exact .inl h
  ·rcases back_loc h with⟨_,_,h⟩|⟨_,h⟩
   ·exact lend_all (hB.old b (o3 k b h) hlt)
   ·exact .inr (.inl ⟨k,h⟩)
  ·rcases back_arr h with⟨_,_,h⟩|⟨_,h⟩
   ·exact lend_all (hB.old b (a3 k m hv b h h2) hlt)
   ·exact .inr (.inr ⟨k,m,hv,h,h2⟩)
 have hkeep:∀(D:Nat)(o:Obj),¬c.all D→w.heap[D]?=some o→w'.heap[D]?=some o:=fun D o h1 h2=>(hB.keep (fun h=>h1 (lend_all h)) (Array.getElem?_eq_some_iff.1 h2).1).trans h2
 refine⟨hb.below.trans ⟨hB.below.os,hB.below.tape,hB.below.output,hs,fun k hk _=>hB.below.block k (Nat.lt_of_lt_of_le hk hb.hB) fun h=>?_⟩,Nat.le_trans hb.hB hs,hb.nt,⟨hb.dfr.1,fun d hd=>?_⟩,fun p hp=>?_,hB.ok.hw,Mem.le_trans hb.hle hB.le,fun p v hp=>?_,?_,?_,fun k hk=>?_,fun b hy=>?_,fun k b hk e=>?_,fun k m hv lv hk e=>?_⟩
 ·have:=hb.lent_own hB.dis h;omega
 ·obtain⟨D,h1,h2,h3,h4⟩:=hb.dfr.2 d hd
  exact⟨D,h1,h2,fun e=>h3 (hall D (Array.getElem?_eq_some_iff.1 h4).1 e),hkeep D _ h3 h4⟩
 ·obtain⟨h1,h2,h3⟩:=hb.pin p hp
  exact⟨fun e=>h1 (hall _ (Array.getElem?_eq_some_iff.1 h3).1 e),h2,hkeep _ _ h1 h3⟩
 ·rcases hB.new p v hp with h|h|h
  ·exact hb.hnew p v h
  ·exact .inr (.inl (Nat.le_trans hb.hB h))
  ·exact .inr (.inl (hb.lent_own hB.dis h))
 ·intro k b hk
  rcases back_loc hk with⟨h1,h2,h3⟩|⟨h1,h3⟩
  ·obtain⟨_,q2,q3,q4,q5⟩:=hB.ok.loc k b h3
   refine⟨.inl (hnew3 b (o3 k b h3)),q2,q3,fun k' hk'=>?_,fun k' m hv hk' e=>?_⟩
   ·rcases back_loc hk' with⟨_,_,h⟩|⟨hn,h⟩
    ·exact q4 k' h
    ·exact absurd (hB.old b (o3 k b h3) (hb.loc k' b h).2.1) (hb.not_lent_loc h hn)
   ·rcases back_arr hk' with⟨_,_,h⟩|⟨hn,h⟩
    ·exact q5 k' m hv h e
    ·exact absurd (hB.old b (o3 k b h3) (hb.arr k' m hv b h e).2.1) (hb.not_lent_arr h e hn)
  ·obtain⟨q1,q2,q3,q4,q5⟩:=hb.loc k b h3
   refine⟨q1,Nat.lt_of_lt_of_le q2 hs,fun o=>hnone b o q2 (hb.not_lent_loc h3 h1) (q3 o),fun k' hk'=>?_,fun k' m hv hk' e=>?_⟩
   ·rcases back_loc hk' with⟨_,_,h⟩|⟨_,h⟩
    ·exact absurd (hB.old b (o3 k' b h) q2) (hb.not_lent_loc h3 h1)
    ·exact q4 k' h
   ·rcases back_arr hk' with⟨_,_,h⟩|⟨_,h⟩
    ·exact absurd (hB.old b (a3 k' m hv b h e) q2) (hb.not_lent_loc h3 h1)
    ·exact q5 k' m hv h e
 ·intro k m hv b hk hbk
  rcases back_arr hk with⟨h1,h2,h3⟩|⟨h1,h3⟩
  ·obtain⟨_,q2,q3,q4⟩:=hB.ok.arr k m hv b h3 hbk
   refine⟨.inl (hnew3 b (a3 k m hv b h3 hbk)),q2,q3,fun k' m' hv' hk' e=>?_⟩
   rcases back_arr hk' with⟨_,_,h⟩|⟨hn,h⟩
   ·exact q4 k' m' hv' h e
   ·exact absurd (hB.old b (a3 k m hv b h3 hbk) (hb.arr k' m' hv' b h e).2.1) (hb.not_lent_arr h e hn)
  ·obtain⟨q1,q2,q3,q4⟩:=hb.arr k m hv b h3 hbk
   refine⟨q1,Nat.lt_of_lt_of_le q2 hs,fun o=>hnone b o q2 (hb.not_lent_arr h3 hbk h1) (q3 o),fun k' m' hv' hk' e=>?_⟩
   rcases back_arr hk' with⟨_,_,h⟩|⟨_,h⟩
   ·exact absurd (hB.old b (a3 k' m' hv' b h e) q2) (hb.not_lent_arr h3 hbk h1)
   ·exact q4 k' m' hv' h e
 ·obtain⟨u1,u2⟩:=hb.used k hk
  constructor
  ·cases e:(c.back c3 fs t).loc k with
   |none=>rfl
   |some b=>
    rcases back_loc e with⟨h1,h2,_⟩|⟨_,h⟩
    ·obtain⟨b',hb'⟩:=(hB.held k h1).1 h2
     rw[u1]at hb';cases hb'
    ·rw[u1]at h;cases h
  ·cases e:(c.back c3 fs t).arr k with
   |none=>rfl
   |some x=>
    rcases back_arr e with⟨h1,h2,_⟩|⟨_,h⟩
    ·obtain⟨b',hb'⟩:=(hB.held k h1).2 h2
     rw[u2]at hb';cases hb'
    ·rw[u2]at h;cases h
 ·obtain⟨h1,h2,h3,h4⟩:=hb.Y b hy
  refine⟨Nat.lt_of_lt_of_le h1 hs,h2,fun k hk=>?_,fun k m hv hk e=>?_⟩
  ·rcases back_loc hk with⟨_,_,h⟩|⟨_,h⟩
   ·exact hb.not_lent_Y hy (hB.old b (o3 k b h) h1)
   ·exact h3 k h
  ·rcases back_arr hk with⟨_,_,h⟩|⟨_,h⟩
   ·exact hb.not_lent_Y hy (hB.old b (a3 k m hv b h e) h1)
   ·exact h4 k m hv h e
 ·rcases back_loc e with⟨h1,_⟩|⟨_,h⟩
  ·exact absurd hk (hB.dis k h1)
  ·exact hb.loc0 k b hk h
 ·rcases back_arr e with⟨h1,_⟩|⟨_,h⟩
  ·exact absurd hk (hB.dis k h1)
  ·exact hb.arr0 k m hv lv hk h
theorem Holds.back(hb:Base E U c a w)(hB:Backs E c c3 w w' fs t){key:Nat}{x:X}(hk:¬key<1000)(hn:∀k∈fs,(hasB t k=true→key≠1000+k)∧(hasA t k=true→key≠2000+k))(h:Holds c a w key x):Holds (c.back c3 fs t) a w' key x:=by
 have hext:=hB.ext'
 unfold Holds at *
 rw[if_neg hk]at h⊢
 refine or_snd h fun h=>?_
 split at h
 ·rename_i h2
  rw[if_pos h2]
  obtain⟨b,o,h1,h3,h4⟩:=h
  have hnl:=hb.not_lent_loc (fs:=fs) (t:=t) h1 fun q=>(hn _ q.1).1 q.2 (by omega)
  exact⟨b,o,hext.loc _ _ h1,(hB.keep hnl (hb.loc _ _ h1).2.1).trans h3,h4.mono hext⟩
 ·rename_i h2
  rw[if_neg h2]
  split at h
  ·rename_i h6
   rw[if_pos h6]
   obtain⟨sz,rows,hv,e,vs,hx,h1,h3,h4⟩:=h
   have hq:¬(key - 2000∈fs∧hasA t (key - 2000)=true):=fun q=>(hn _ q.1).2 q.2 (by omega)
   refine⟨sz,rows,hv,e,vs,hx.mono hext,?_,⟨h3.1,h3.2.imp id ?_⟩,h4⟩
   ·simp only[Ctx.back]
    rw[if_neg fun q=>hq (by rw[Bool.and_eq_true]at q;exact⟨List.contains_iff_mem.1 q.1,q.2⟩)]
    exact h1
   ·rintro⟨g,cap,cur,f1,f2,f3,r⟩
    exact⟨g,cap,cur,f1,f2,(hB.keep (hb.not_lent_arr h1 (by rw[f1];rfl) hq) (Array.getElem?_eq_some_iff.1 f3).1).trans f3,r⟩
  ·rename_i h6
   rw[if_neg h6]
   obtain⟨hk0,J,hx0,hJ,hJ2⟩:=h
   refine⟨hk0,J,hx0.mono hext.loc,hJ,hJ _ _ _ _ _ hJ2 hB.le (fun p v e=>(hB.new p v e).imp id fun h hy=>h.elim (fun h=>by have:=(hb.Y _ hy).1;omega) fun h=>hb.not_lent_Y hy h) hB.ok.hw ⟨hB.below.os,hB.below.tape,hB.below.output,hB.below.size,fun j hj=>by omega⟩ fun b hy=>hB.keep (hb.not_lent_Y hy) (hb.Y b hy).1⟩
theorem RepP.back{x:X}{v:Value}(h:RepP c3 x v)(ho:lendP fs t x=true):RepP (c.back c3 fs t) x v:=by
 cases x
 case ptr k off=>
  obtain⟨b,h1,h2⟩:=h
  simp only[lendP]at ho
  exact⟨b,by simp only[Ctx.back];rw[if_pos ho];exact h1,h2⟩
 case own k n=>
  obtain⟨h0,m,hv,lv,h1,h2⟩:=h
  simp only[lendP]at ho
  exact⟨h0,m,hv,lv,by simp only[Ctx.back];rw[if_pos ho];exact h1,h2⟩
 case optr k n off=>
  obtain⟨m,hv,lv,h1,h2⟩:=h
  simp only[lendP]at ho
  exact⟨m,hv,lv,by simp only[Ctx.back];rw[if_pos ho];exact h1,h2⟩
 case mptr k=>
  obtain⟨b,h1,h2⟩:=h
  simp only[lendP]at ho
  exact⟨b,by simp only[Ctx.back];rw[if_pos ho];exact h1,h2⟩
 case ownp k n sz lo hi=>
  obtain⟨h0,m,hv,lv,h1,h2⟩:=h
  simp only[lendP]at ho
  exact⟨h0,m,hv,lv,by simp only[Ctx.back];rw[if_pos ho];exact h1,h2⟩
 all_goals exact h
theorem RepC.back{x:X}{v:Value}(h:RepC c3 x v)(ho:lendC fs t x=true):RepC (c.back c3 fs t) x v:=by
 cases x
 case fn f caps=>obtain⟨vs,h1,h2⟩:=h;exact⟨vs,h1,All2.cut (R':=RepP (c.back c3 fs t)) (ok:=lendP fs t) (fun _ _ h ho=>RepP.back h ho) h2 ho⟩
 all_goals (simp only[RepC,lendC]at h ho⊢;exact RepP.back h ho)
theorem Holds.fromLent{key:Nat}{x:X}{a':Act}(h:Holds c3 a w' key x)(ho:lendKey fs t (key,x)=true):Holds (c.back c3 fs t) a' w' key x:=by
 unfold lendKey at ho
 cases x
 case box cells=>
  simp only[Bool.and_eq_true,Nat.ble_eq,Nat.blt_eq]at ho
  obtain⟨⟨⟨⟨h1,h2⟩,h3⟩,h4⟩,h5⟩:=ho
  unfold Holds at h⊢
  rw[if_neg (by omega)]at h⊢
  refine or_snd h fun h=>?_
  rw[if_pos h2]at h⊢
  obtain⟨b,o,q1,q2,T,vs,e,q3⟩:=h
  exact⟨b,o,by simp only[Ctx.back];rw[if_pos (by rw[h3,h4];rfl)];exact q1,q2,T,vs,e,All2.cut (R':=RepC (c.back c3 fs t)) (ok:=lendC fs t) (fun _ _ h ho=>RepC.back h ho) q3 h5⟩
 case omap es=>
  simp only[Bool.and_eq_true,Nat.ble_eq,Nat.blt_eq]at ho
  obtain⟨⟨⟨h1,h2⟩,h3⟩,h4⟩:=ho
  unfold Holds at h⊢
  rw[if_neg (by omega)]at h⊢
  refine or_snd h fun h=>?_
  rw[if_pos h2]at h⊢
  obtain⟨b,o,q1,q2,q3⟩:=h
  exact⟨b,o,by simp only[Ctx.back];rw[if_pos (by rw[h3,h4];rfl)];exact q1,q2,q3⟩
 case arrn sz pre mid post=>
  simp only[Bool.and_eq_true,Nat.ble_eq,Nat.blt_eq]at ho
  obtain⟨⟨⟨⟨h1,h2⟩,h3⟩,h4⟩,h5⟩:=ho
  unfold Holds at h⊢
  rw[if_neg (by omega)]at h⊢
  refine or_snd h fun h=>?_
  rw[if_neg (by omega),if_pos h2]at h⊢
  obtain⟨sz',rows',hv,e,vs,⟨e1,e2,v1,v2,v3,e3,e4,e5,e6⟩,q1,q2⟩:=h
  exact⟨sz',rows',hv,e,vs,⟨e1,e2,v1,v2,v3,e3,e4,All2.cut (R':=RepC (c.back c3 fs t)) (ok:=lendC fs t) (fun _ _ h ho=>RepC.back h ho) e5 h5,e6⟩,by simp only[Ctx.back];rw[if_pos (by rw[h3,h4];rfl)];exact q1,q2⟩
 case arr sz rows=>
  simp only[Bool.and_eq_true,Nat.ble_eq,Nat.blt_eq]at ho
  obtain⟨⟨⟨h1,h2⟩,h3⟩,h4⟩:=ho
  unfold Holds at h⊢
  rw[if_neg (by omega)]at h⊢
  refine or_snd h fun h=>?_
  rw[if_neg (by omega),if_pos h2]at h⊢
  obtain⟨sz',rows',hv,e,vs,⟨e1,e2,q5⟩,q1,q2⟩:=h
  exact⟨sz',rows',hv,e,vs,⟨e1,e2,q5⟩,by simp only[Ctx.back];rw[if_pos (by rw[h3,h4];rfl)];exact q1,q2⟩
 all_goals cases ho
end
section
variable{E:Env}{all:Array Oper}{s r r1 r2 r3 rg:St}{d ty:Nat}{pos:String}{after:Array Edge}{guard:Option (Nat×Bool)}{x y z:Operand}
theorem S.callE{g f:Nat}{fs:List Nat}{os:List Operand}{at_:Array TypeId}{ys xs caps:List X}{res:X}{t t':St}
  (hf:∀(cL:Ctx)(v0:Value),RepC cL (.fn f caps) v0→CtG E.P g [] (ys++[.cb fun v=>v=v0]) [(3000,.res (LentJ fs t cL t))] [(3000,.res (LentJ fs t cL t'))] res)
  (hcall:∀args w,(callFunc g args).run E.P w=.ok (.enter g args) w) (hg:Gd all s guard rg) (hd:(Nat.blt d 1000&&Nat.blt d E.nt)=true) (ha:OpsS s os xs r) (hx:ys++[.fn f caps]=xs) (ho:ys.all okArg=true)
  (hcl:caps.all (lendP fs t)=true) (hl:Looks s t) (ht:t.all (lendKey fs t)=true) (ht2:t'.all (lendKey fs t)=true) (hk:t.all (hiKey fs)=true) (hcov:cover fs t t'=true) (hhas:fs.all (fun k=>hasB t k||hasA t k)=true) (hdis:fs.all (fun k=>!E.fs.contains k)=true) (hs:scal res=true):
  St1 E all ⟨some d,.call {callee:=.value (.func g),args:=os.toArray,argTypes:=at_},ty,pos,after,guard⟩ s (rg++(r++t)) ((d,res)::t') []:=by
 subst hx
 simp only[Bool.and_eq_true,Nat.blt_eq]at hd
 refine⟨?_,hg.looks.app (ha.looks.app hl)⟩
 intro U c a w hb hr _ next Q hn
 have hw:=hg.wanted (o:=⟨some d,.call {callee:=.value (.func g),args:=os.toArray,argTypes:=at_},ty,pos,after,guard⟩) (fun p hp=>hr p (List.mem_append_left _ hp))
 obtain⟨vs1,v0,e1,hys,hv0⟩:=All2.split1 (ha.rep (c:=c) (a:=a) (w:=w) fun p hp=>hr p (by simp[hp]))
 have hargs:=args_clean hys ho
 have hv0':RepC c (.fn f caps) v0:=hv0
 have hvL:RepC (c.lend fs t) (.fn f caps) v0:=hv0'.lend (by simpa[lendC]using hcl)
 unfold opIn
 rw[if_pos hw]
 refine⟨fun _ _=>trivial,?_⟩
 rw[Oper.semAt_eq _ _ _ fun cl he=>by cases he]
 have hfo:a.eval (.func g)=.func (.func g) #[] #[]:=rfl
 have hrun:(execOp a.eval ⟨some d,.call {callee:=.value (.func g),args:=os.toArray,argTypes:=at_},ty,pos,after,guard⟩).run E.P w=.ok (.enter g (vs1++[v0]).toArray) w:=by
  rw[←e1]
  simp[execOp,resolve,hfo,Deferred.ofValue,invoke,hcall]
 rw[hrun]
 refine⟨(fun h=>by cases h),?_⟩
 have hholds:∀p∈t,Holds c a w p.1 p.2:=fun p hp=>hr p (by simp[hp])
 have hc0:=hf (c.lend fs t) v0 hvL ⟨c.h,fun _=>none,fun _=>none,fun b=>(c.lend fs t).out fs b⟩ w (vs1++[v0])
  ⟨hb.hw,(fun k b e=>by cases e),(fun k m hv b e=>by cases e),(fun _ _=>⟨rfl,rfl⟩),(fun b hy=>⟨by
   rcases lend_out hy with⟨k,_,_,h⟩|⟨k,m,hv,_,_,h,h2⟩
   ·exact(hb.loc k b h).2.1
   ·exact(hb.arr k m hv b h h2).2.1,(fun k e=>by cases e),(fun k m hv e=>by cases e)⟩)⟩
  (by
   intro p hp a'
   simp only[List.mem_singleton]at hp
   subst hp
   unfold Holds
   rw[if_neg (by omega),if_neg (by omega),if_neg (by omega)]
   exact .inr ⟨rfl,_,rfl,LentJ.stable hk,c.lend fs t,⟨rfl,lend_ctx hb,fun b=>Iff.rfl,fun k b e=>(lend_loc e).2.1,fun k x e=>(lend_arr e).2.1,Ext.refl _⟩,fun p hp a'=>(hholds p hp).lend (List.all_eq_true.1 ht p hp)⟩)
  ((hargs.mono fun _ _=>RepV.mono (pure_ext (c:=Ctx.mk c.h (fun _=>none) (fun _=>none) (fun b=>(c.lend fs t).out fs b)) rfl)).append (show All2 (RepV (Ctx.mk c.h (fun _=>none) (fun _=>none) (fun b=>(c.lend fs t).out fs b))) [X.cb fun v=>v=v0] [v0]from⟨rfl,trivial⟩))
 have h1:CallsIn E.F (0 - 1) E.P g (vs1++[v0]).toArray w _:=(callsIn_wide (n:=0)).2 hc0
 refine h1.mono ?_
 rintro en w' ⟨u,c2,rfl,hpg⟩
 have hJ:=hpg.wr (3000,.res (LentJ fs t (c.lend fs t) t')) (by simp) a
 unfold Holds at hJ
 rw[if_neg (by omega),if_neg (by omega),if_neg (by omega)]at hJ
 rcases hJ with hJ|⟨_,J,eJ,_,hJ2⟩
 ·cases hJ
 cases eJ
 obtain⟨c3,hl3,hp3⟩:=hJ2
 have hall3:∀b,c3.out fs b→b<w.heap.size→(c.lend fs t).out fs b:=by
  intro b ho hlt
  rcases hpg.out b (.inl ((hl3.Y b).2 ho)) hlt with h|⟨k,h,_⟩|⟨k,m,hv,h,_⟩
  ·exact h
  ·cases h
  ·cases h
 have hB:Backs E c c3 w w' fs t:=by
  refine⟨fun k hk=>?_,fun k hk=>?_,fun k hk=>⟨fun h=>?_,fun h=>?_⟩,hpg.below.mono (Nat.le_refl _) fun k _ h=>?_,?_,fun p v hp=>?_,hl3.ok,hall3,hl3.ext⟩
  ·have:=List.all_eq_true.1 hdis k hk;simpa using this
  ·have:=List.all_eq_true.1 hhas k hk;simpa using this
  ·obtain⟨x0,hx0,hm⟩:=hasB_mem h
   exact boxes_of (hholds _ hm) hx0 (cover_of hcov hk).1
  ·obtain⟨x0,hx0,hm⟩:=hasA_mem h
   exact arrs_of (hholds _ hm) hx0
  ·rcases h with h|⟨k,h,_⟩|⟨k,m,hv,h,_⟩
   ·exact h
   ·cases h
   ·cases h
  ·rw[hl3.hh];exact hpg.le
  ·rw[hl3.hh]at hp
   refine(hpg.new p v hp).imp id fun q=>q.imp id fun q=>?_
   rcases q with h|⟨k,h,_⟩|⟨k,m,hv,h,_⟩
   ·exact h
   ·cases h
   ·cases h
 have hext:=hB.ext'
 have hdt:d<a.tmps.size:=by rw[hb.nt];exact hd.2
 have tk:∀p∈t',1000≤p.1:=by
  intro p hp
  have h:=List.all_eq_true.1 ht2 p hp
  obtain⟨key,y⟩:=p
  unfold lendKey at h
  cases y
  case box cells=>simp only[Bool.and_eq_true,Nat.ble_eq]at h;exact h.1.1.1.1
  case arr sz rows=>simp only[Bool.and_eq_true,Nat.ble_eq]at h;show 1000≤key;have:=h.1.1.1;omega
  case omap es=>simp only[Bool.and_eq_true,Nat.ble_eq]at h;exact h.1.1.1
  case arrn sz pre mid post=>simp only[Bool.and_eq_true,Nat.ble_eq]at h;show 1000≤key;have:=h.1.1.1.1;omega
  all_goals cases h
 refine hn (c.back c3 fs t) _ w' ((hb.back hB).put _ _) hext ?_ ?_
 ·intro p hp
  rcases List.mem_cons.1 hp with rfl|hp
  ·unfold Holds
   rw[if_pos hd.1,getD_put hdt]
   exact scal_any hs hpg.res
  ·have h:=Holds.fromLent (c:=c) (a':=a) (hp3 p hp a) (List.all_eq_true.1 ht2 p hp)
   exact h.put (by have:=tk p hp;omega) u
 ·intro key y hk2 hy
  have hne:d≠key:=hk2 (d,res) (by simp)
  by_cases h1:key<1000
  ·refine Holds.put ?_ hne u
   unfold Holds at hy⊢
   rw[if_pos h1]at hy⊢
   exact hy.mono hext
  ·refine(Holds.back hb hB h1 (fun k hk3=>⟨fun h e=>?_,fun h e=>?_⟩) hy).put hne u
   ·obtain⟨x0,_,hm⟩:=hasB_mem ((cover_of hcov hk3).2.1 h)
    exact hk2 _ (List.mem_cons_of_mem _ hm) e.symm
   ·obtain⟨x0,_,hm⟩:=hasA_mem ((cover_of hcov hk3).2.2 h)
    exact hk2 _ (List.mem_cons_of_mem _ hm) e.symm
end
end Go.Ab
