import Derived.LaidEql
import Derived.Test.YtpbalelbenmmbaaGreatDoorHh
namespace Go.Ab
open Go.RowKit
section
variable{E:Env}{U:List Nat}{s:St}{code:Code}{Q:Exit→List Nat→St→Prop}
theorem OK.resAll{ι:Type}{p:ι→Prop}{J:ι→Mem→(Nat→Prop)→World→Prop}(hl:look s 3000=some (.res fun h Y w=>∃q,p q∧J q h Y w))(hS:∀q,Stable (J q))(h:∀q,p q→OK E code Q U ((3000,.res (J q))::s)):OK E code Q U s:=fun a w hg=>by
 obtain⟨c,hb,hh⟩:=hg
 obtain⟨q,hp,hj⟩:=(res_of (hh _ _ hl)).2
 refine h q hp a w ⟨c,hb,fun key x hx=>?_⟩
 simp only[look]at hx
 split at hx
 ·rename_i e
  have:=Nat.eq_of_beq_eq_true e
  cases hx
  subst this
  exact Holds.mkRes (hS q) hj
 ·exact hh key x hx
theorem Stable.ex{ι:Type}{p:ι→Prop}{J:ι→Mem→(Nat→Prop)→World→Prop}(hS:∀q,Stable (J q)):Stable fun h Y w=>∃q,p q∧J q h Y w:=by
 rintro h h' Y w w' ⟨q,h1,h2⟩ a b c d e
 exact⟨q,h1,hS q _ _ _ _ _ h2 a b c d e⟩
end
section
variable{E:Env}{all:Array Oper}{s r r1 r2 r3 rg:St}{d ty:Nat}{pos:String}{after:Array Edge}{guard:Option (Nat×Bool)}{x y z:Operand}{K:Type}[DecidableEq K]
theorem S.hpeq{t t2 e n b1 b2:Nat}{ag:Bool}{xs1 xs2:List X}{M:HM K}{J:Mem→(Nat→Prop)→World→Prop}(hJ:∀h Y w,J h Y w→HeapJ M h Y w)(k1 k2:K)(hsz:TyI E.P e ag n)(ht:E.P.underlying t=some (.pointer e))(hn:n≠0)(hg:Gd all s guard rg)(hd:(Nat.blt d 1000&&Nat.blt d E.nt)=true)(hx:OpS s x (.raw (.pointer (some ⟨b1,0,none⟩))) r1)(hy:OpS s y (.raw (.pointer (some ⟨b2,0,none⟩))) r2)
  (hl:look s 3000=some (.res J)) (hM1:M k1=some (b1,.box xs1)) (hM2:M k2=some (b2,.box xs2)):
  St1 E all ⟨some d,.binOp .eql t x y t2,ty,pos,after,guard⟩ s (rg++((r1++r2)++[(3000,.res J)])) [(d,.bool (decide (b1=b2)))] []:=
 St1.val hg hd rfl ((hx.looks.app hy.looks).app ⟨hl,trivial⟩) fun c A w _ hr=>by
  have _:=(inferInstance:DecidableEq K)
  have hv1:A.eval x=.pointer (some ⟨b1,0,none⟩):=hx.rep (c:=c) (a:=A) (w:=w) fun p hp=>hr p (by simp[hp])
  have hv2:A.eval y=.pointer (some ⟨b2,0,none⟩):=hy.rep (c:=c) (a:=A) (w:=w) fun p hp=>hr p (by simp[hp])
  have hj:HeapJ M c.h c.Y w:=hJ _ _ _ (res_of (hr (3000,.res J) (by simp))).2
  obtain⟨_,_,T1,vs1,q1,_⟩:=hj.1 k1 b1 _ hM1
  obtain⟨_,_,T2,vs2,q2,_⟩:=hj.1 k2 b2 _ hM2
  refine⟨.bool (decide (b1=b2)),?_,RepD.toT (.bool _)⟩
  have hq:(eqGuard .eql t x y (.pointer (some ⟨b1,0,none⟩)) (.pointer (some ⟨b2,0,none⟩))).run E.P w=.ok () w:=by simp[eqGuard]
  have hs:(sameAddr ⟨b1,0,none⟩ ⟨b2,0,none⟩).run E.P w=.ok (decide (b1=b2)) w:=by
   by_cases hb:b1=b2
   ·subst hb;rw[run_sameAddr_same w,decide_eq_true rfl]
   ·rw[run_sameAddr_other w (fun e=>hb (congrArg Addr.block e)) q1 q2,decide_eq_false hb]
  have h3:(Op.equalIn Op.maxDepth t (.pointer (some ⟨b1,0,none⟩)) (.pointer (some ⟨b2,0,none⟩))).run E.P w=.ok (decide (b1=b2)) w:=by
   rw[show Op.maxDepth=(Op.maxDepth - 1)+1 from rfl]
   simp only[Op.equalIn,run_underlying ht,Sem.run_bind,Result.andThen_ok,hsz.size,if_pos hn,hs]
  simp only[execOp,hv1,hv2,Sem.run_bind,hq,Result.andThen_ok,binOp,Op.equal,h3]
  rfl
end
section
variable{E:Env}{all:Array Oper}{s r rg:St}{d ty:Nat}{pos:String}{after:Array Edge}{guard:Option (Nat×Bool)}{x:Operand}
theorem S.field1{T f o Tf n:Nat}{us:List X}{u:X}(hf:FtI E.P T f o Tf)(ht:TyI E.P Tf false n)(hg:Gd all s guard rg)(hd:(Nat.blt d 1000&&Nat.blt d E.nt)=true)(hx:OpS s x (.agg us) r)(hu:us[o]?=some u)(hnt:isAT u=false):
  St1 E all ⟨some d,.field T x f,ty,pos,after,guard⟩ s (rg++r) [(d,u)] []:=
 St1.val hg hd rfl hx.looks fun c A w hh hr=>by
  obtain⟨vs,h1,h2⟩:=hx.rep (c:=c) (a:=A) (w:=w) hr
  obtain⟨fields,fl,e1,e2,e3,e4⟩:=hf.ex
  obtain⟨v,hvv,hvr⟩:=h2.get_right hu
  refine⟨v,?_,C.toT hvr hnt⟩
  simp only[execOp,h1,Instr.field]
  rw[Sem.run_bind,Sem.run_bind,run_underlying e1]
  simp[e2,part,asAgg,e3,e4,ht.agg,hvv]
end
theorem nilsD{h:Mem}{v:Value}(e:v=.slice none 0 0):RepD h (.sl []) v:=by subst e;exact .sl0 none 0 (Nat.zero_le _)
def CellsN:List X→List X→Prop:=All2 fun x x'=>(okH x=true∧x'=toH x)∨(x=.nils∧x'=.sl [])
theorem CellsN.rep:∀{xs xs':List X},CellsN xs xs'→∀{c:Ctx}{vs:List Value},All2 (RepC c) xs vs→All2 (RepD c.h) xs' vs
 |[],[],_,_,[],_=>trivial
 |x::xs,x'::xs',h,c,v::vs,hv=>by
  refine⟨?_,CellsN.rep h.2 hv.2⟩
  rcases h.1 with⟨q1,q2⟩|⟨q1,q2⟩
  ·rw[q2];exact H_of hv.1 q1
  ·subst q1;subst q2;exact nilsD hv.1
 |[],_::_,h,_,_,_=>h.elim
 |_::_,[],h,_,_,_=>h.elim
 |[],[],_,_,_::_,hv=>hv.elim
 |_::_,_::_,_,_,[],hv=>hv.elim
section
variable{E:Env}{U:List Nat}{s:St}{code:Code}{Q:Exit→List Nat→St→Prop}{K:Type}[DecidableEq K]{M:HM K}
theorem OK.hboxC(t:Nat)(kb:K){k sz:Nat}{cells cells':List X}(ht:Nat.blt t 1000=true)(hl:look s t=some (.optr k 1 0))(hl2:look s (2000+k)=some (.arrn sz [] cells []))(hc:CellsN cells cells')(hl3:look s 3000=some (.res (HeapJ M)))
  (h:∀b,OK E code Q U ((t,.raw (.pointer (some ⟨b,0,none⟩)))::(2000+k,.any)::(3000,.res (HeapJ (M.set kb (some (b,.box cells')))))::s)) (hk9:E.fs.contains k=false:=by rfl):OK E code Q U s:=fun a w hg=>by
 obtain⟨c,hb,hh⟩:=hg
 obtain⟨b,cp,e1,hb1,hj1⟩:=give_box hb (res_of (hh _ _ hl3)).2 kb (nfs hk9) (hh _ _ hl2) (fun vs h=>hc.rep h)
 obtain⟨m,hv,lv,p1,p2,p3⟩:=(show RepP c (.optr k 1 0) _ from(hh _ _ hl).slot ht)
 rw[e1]at p1
 cases p1
 obtain⟨b',l',cp',p4,p5⟩:=p3 rfl
 cases p4
 refine h b a w ⟨_,hb1,fun key x hx=>?_⟩
 simp only[look]at hx
 split at hx
 ·rename_i e
  have:=Nat.eq_of_beq_eq_true e
  cases hx
  subst this
  rw[Nat.blt_eq]at ht
  unfold Holds
  rw[if_pos ht]
  exact p5
 ·split at hx
  ·rename_i e
   have:=Nat.eq_of_beq_eq_true e
   cases hx
   subst this
   unfold Holds
   rw[if_neg (by omega)]
   exact .inl rfl
  ·rename_i hk2
   split at hx
   ·rename_i e
    have:=Nat.eq_of_beq_eq_true e
    cases hx
    subst this
    exact Holds.mkRes (HeapJ.stable _) hj1
   ·rename_i hk3
    exact Holds.dead e1 (fun e=>hk2 (by rw[e];exact Nat.beq_refl _)) (fun e=>hk3 (by rw[e];exact Nat.beq_refl _)) (hh key x hx)
end
def setB(ks:List (List UInt8)):List (List UInt8×X):=ks.map fun s=>(s,X.bool true)
section
variable{E:Env}{all:Array Oper}{s r1 r2 r3 rg:St}{d ty:Nat}{pos:String}{after:Array Edge}{guard:Option (Nat×Bool)}{x y z:Operand}
theorem S.lookupB{t kt e k:Nat}{key:List UInt8}{ks:List (List UInt8)}{es:List (X×X)}{zv:Value}(ht:E.P.underlying t=some (.map kt e))(hk:E.P.underlying kt=some .string)(hz:∀w,(zeroValue e).run E.P w=.ok zv w)(hzx:zv=.bool false)(hg:Gd all s guard rg)(hd:(Nat.blt d 1000&&Nat.blt d E.nt)=true)
  (hx:OpS s x (.mptr k) r1) (hy:OpS s y (.str key) r2) (hl:look s (1000+k)=some (.omap es)) (hes:es=mapX (setB ks)) (hk1:Nat.blt k 1000=true:=by rfl):
  St1 E all ⟨some d,.lookup t x y false,ty,pos,after,guard⟩ s (rg++(r1++(r2++[(1000+k,.omap es)]))) [(d,.bool (decide (key∈ks)))] []:=by
 subst hzx
 have e:(lookL (setB ks) key).getD (.bool false)=.bool (decide (key∈ks)):=by
  unfold setB
  rw[lookL_set]
  by_cases h:key∈ks
  ·rw[if_pos h,decide_eq_true h];rfl
  ·rw[if_neg h,decide_eq_false h];rfl
 have h:=S.lookupO1 (d:=d) (ty:=ty) (pos:=pos) (after:=after) (l:=setB ks) (zx:=.bool false) ht hk hz (fun c=>RepD.bool false) hg hd hx hy hl hes (by rw[e];rfl) hk1
 rw[e]at h
 exact h
theorem S.setAddB{t kt e k:Nat}{key:List UInt8}{ks:List (List UInt8)}{es:List (X×X)}(ht:E.P.underlying t=some (.map kt e))(hk:E.P.underlying kt=some .string)(hg:Gd all s guard rg)(hx:OpS s x (.mptr k) r1)(hy:OpS s y (.str key) r2)(hz:OpS s z (.bool true) r3)(hl:look s (1000+k)=some (.omap es))(hes:es=mapX (setB ks))(hn:key∉ks)(hk1:Nat.blt k 1000=true:=by rfl):
  St1 E all ⟨none,.mapUpdate t x y z,ty,pos,after,guard⟩ s (rg++(r1++(r2++(r3++[(1000+k,.omap es)])))) [(1000+k,.omap (mapX (setB (ks++[key]))))] []:=
 S.mapSetO (l:=setB ks) ht hk hg hx hy hz rfl hl hes (by unfold setB;rw[putL_set _ _ _ hn]) hk1
end
section
variable{E:Env}{all:Array Oper}{s r rg:St}{d ty:Nat}{pos:String}{after:Array Edge}{guard:Option (Nat×Bool)}
theorem S.loadNames {T g : Nat} (hT : TabOk E) (hn : E.P.globalNamed "martensite/recipe.names" = some g) (ht : TyI E.P T true 6) (hg : Gd all s guard rg) (hd : (Nat.blt d 1000 && Nat.blt d E.nt) = true) :
  St1 E all ⟨some d,.load T (.global g),ty,pos,after,guard⟩ s (rg++[]) [(d,.agg (nameTab.map X.str))] []:=
 St1.mk hg hd rfl trivial fun U c a w hb hr _=>by
  obtain⟨T',dd,e⟩:=(hT.now hb).nam g hn
  refine⟨.agg (nameTab.map fun l=>Value.string ⟨l.toArray⟩).toArray,c,w,?_,hb,Ext.refl c,⟨nameTab.map fun l=>Value.string ⟨l.toArray⟩,rfl,?_⟩,(fun p hp=>by cases hp),fun key y _ _ hy=>hy⟩
  ·have h0:a.eval (.global g)=.pointer (some ⟨g,0,none⟩):=rfl
   simp only[execOp,h0]
   rw[Sem.run_bind,run_loadN ht (vs:=nameTab.map fun l=>Value.string ⟨l.toArray⟩) (by rfl) fun i v hv=>?_]
   ·rfl
   ·unfold World.cell?
    simp only[Nat.zero_add,e]
    simpa using hv
  ·refine All2.of_get (by simp) fun i u v hu hv=>?_
   rw[List.getElem?_map]at hu hv
   cases hi:nameTab[i]? with
   |none=>rw[hi]at hu;cases hu
   |some t=>
    rw[hi]at hu hv
    cases hu
    cases hv
    exact RepD.str _ (by have:=List.mem_of_getElem? hi;simp[nameTab]at this;rcases this with rfl|rfl|rfl|rfl|rfl|rfl<;>decide)
end
theorem ldJ{J J0:Mem→(Nat→Prop)→World→Prop}{p:Mem→(Nat→Prop)→World→Prop}(hJ:∀h Y w,J h Y w→J0 h Y w)(hv:∀h Y w,J0 h Y w→p h Y w):∀h Y w,J h Y w→p h Y w:=fun h Y w hj=>hv h Y w (hJ h Y w hj)
def CtR(E:Env)(f:Nat)(args:List X)(res:X)(J0:Mem→(Nat→Prop)→World→Prop):Prop:=
 ∀J,Stable J→(∀h Y w,J h Y w→J0 h Y w)→CtJ E f args res J J
section
variable{E:Env}{all:Array Oper}{s r r1 r2 r3 rg:St}{d ty:Nat}{pos:String}{after:Array Edge}{guard:Option (Nat×Bool)}{x y z:Operand}
theorem step_callR{f:Nat}{fo:Operand}{os:List Operand}{at_:Array TypeId}{ys caps:List X}{res:X}{J0:Mem→(Nat→Prop)→World→Prop}(hg:Gd all s guard rg)(hd:(Nat.blt d 1000&&Nat.blt d E.nt)=true)(hl:Looks s r)(hcall:∀args w,(callFunc f args).run E.P w=.ok (.enter f args) w)
  (hf:CtR E f (ys++caps) res J0) (hl3:look s 3000=some (.res J0))
  (h:∀(c:Ctx)(a:Act)(w:World),(∀p∈r,Holds c a w p.1 p.2)→All2 (RepV (pureC c.h)) ys (os.map a.eval)∧∃cvs:List Value,a.eval fo=.func (.func f) #[] cvs.toArray∧All2 (RepV (pureC c.h)) caps cvs):
  St1 E all ⟨some d,.call {callee:=.value fo,args:=os.toArray,argTypes:=at_},ty,pos,after,guard⟩ s (rg++(r++[(3000,.res J0)])) [(d,res)] []:=by
 simp only[Bool.and_eq_true,Nat.blt_eq]at hd
 refine⟨?_,hg.looks.app (hl.app ⟨hl3,trivial⟩)⟩
 intro U c a w hb hr _ next Q hn
 have hw:=hg.wanted (o:=⟨some d,.call {callee:=.value fo,args:=os.toArray,argTypes:=at_},ty,pos,after,guard⟩) (fun p hp=>hr p (List.mem_append_left _ hp))
 obtain⟨hys,cvs,hfo,hcs⟩:=h c a w fun p hp=>hr p (by simp[hp])
 unfold opIn
 rw[if_pos hw]
 refine⟨fun _ _=>trivial,?_⟩
 rw[Oper.semAt_eq _ _ _ fun cl he=>by cases he]
 have hrun:(execOp a.eval ⟨some d,.call {callee:=.value fo,args:=os.toArray,argTypes:=at_},ty,pos,after,guard⟩).run E.P w=.ok (.enter f (os.map a.eval++cvs).toArray) w:=by
  simp[execOp,resolve,hfo,Deferred.ofValue,invoke,hcall]
 rw[hrun]
 refine⟨(fun h=>by cases h),?_⟩
 obtain⟨hS0,hJ0⟩:=res_of (hr (3000,.res J0) (by simp))
 have hSJ:Stable (fun h Y v=>J0 h Y v∧(∀b,c.Y b→v.heap[b]?=w.heap[b]?)∧(∀p u,c.Y p.block→h p=some u→c.h p=some u)∧∀b,c.Y b→Y b):=by
  rintro h h' Y v v' ⟨j0,j1,j2,j3⟩ a1 a2 a3 a4 a5
  exact⟨hS0 _ _ _ _ _ j0 a1 a2 a3 a4 a5,fun b hb=>(a5 b (j3 b hb)).trans (j1 b hb),fun p u hy hp=>(a2 p u hp).elim (fun h=>j2 p u hy h) (fun h=>absurd (j3 _ hy) h),j3⟩
 have h1:CallsIn E.F (0 - 1) E.P f (os.map a.eval++cvs).toArray w _:=(callsIn_wide (n:=0)).2 (hf _ hSJ (fun _ _ _ h=>h.1) c.h c.Y w _ ⟨U,c,a,hb,rfl⟩ hb.hw (fun b hy=>(hb.Y b hy).1) ⟨hJ0,fun _ _=>rfl,fun _ _ _ h=>h,fun _ h=>h⟩ (hys.append hcs))
 refine h1.mono ?_
 rintro en w' ⟨u,h',Y',rfl,hp,⟨_,j1,j2,_⟩,hres⟩
 have hB:Below w.heap.size w w':=⟨hp.below.os,hp.below.tape,hp.below.output,hp.below.size,fun k hk=>by
  by_cases hy:c.Y k
  ·exact j1 k hy
  ·exact hp.below.block k hk hy⟩
 have hnew:∀p v,h' p=some v→c.h p=some v∨w.heap.size≤p.block:=fun p v hv=>(hp.new p v hv).elim .inl fun h=>h.elim .inr fun hy=>.inl (j2 p v hy hv)
 have hdt:d<a.tmps.size:=by rw[hb.nt];exact hd.2
 have hext:Ext c ⟨h',c.loc,c.arr,c.Y⟩:=⟨hp.le,fun _ _ e=>e,fun _ m hv lv e=>⟨m,hv,lv,e,Nat.le_refl _,fun _=>rfl⟩⟩
 refine hn ⟨h',c.loc,c.arr,c.Y⟩ _ w' ((hb.below_grow hB hp.le hnew hp.hw).put _ _) hext ?_ ?_
 ·intro p hp2
  simp only[List.mem_singleton]at hp2
  subst hp2
  unfold Holds
  rw[if_pos hd.1,getD_put hdt]
  exact hres.mono (pure_ext (c:=⟨h',c.loc,c.arr,c.Y⟩) rfl)
 ·intro key y hk hy
  have hne:d≠key:=hk (d,res) (by simp)
  by_cases h1:key<1000
  ·refine Holds.put ?_ hne u
   unfold Holds at hy⊢
   rw[if_pos h1]at hy⊢
   exact hy.mono hext
  ·exact(Holds.below hb hB hext (fun _ _ _ e=>e) rfl hnew hp.hw h1 hy).put hne u
theorem S.callR{f:Nat}{os:List Operand}{at_:Array TypeId}{ys:List X}{res:X}{J0:Mem→(Nat→Prop)→World→Prop}(hf:CtR E f ys res J0)(hcall:∀args w,(callFunc f args).run E.P w=.ok (.enter f args) w)(hg:Gd all s guard rg)(hd:(Nat.blt d 1000&&Nat.blt d E.nt)=true)
  (ha:OpsS s os ys r) (ho:ys.all okArg=true) (hl3:look s 3000=some (.res J0)):
  St1 E all ⟨some d,.call {callee:=.value (.func f),args:=os.toArray,argTypes:=at_},ty,pos,after,guard⟩ s (rg++(r++[(3000,.res J0)])) [(d,res)] []:=
 step_callR (caps:=[]) hg hd ha.looks hcall (by simpa using hf) hl3 fun _ _ _ hr=>⟨args_clean (ha.rep hr) ho,[],rfl,trivial⟩
end
end Go.Ab
namespace Go.Ab
open Go.RowKit
theorem cell_heap{w w':World}{p:Addr}(h:w'.heap[p.block]?=w.heap[p.block]?):w'.cell? p=w.cell? p:=by
 unfold World.cell?
 rw[h]
theorem sortsJ{E:Env}{f:Nat}(hf:SortsI E.P f){K:Type}[DecidableEq K]{M:HM K}{kb:K}{b cap n:Nat}{zs:List Int}(hM:M kb=some (b,.row 1 cap (zs.map fun n=>[X.int .i64 n])))(hn:zs.length=n)(hbig:n<4611686018427387904):
  CtJ E f [.raw (.slice (some ⟨b,0,none⟩) n cap)] (.tup []) (HeapJ M) (HeapJ (M.set kb (some (b,.row 1 cap ((zs.mergeSort fun x y=>decide (x≤y)).map fun n=>[X.int .i64 n]))))):=by
 intro h Y w vs _ hw hY hj hargs
 subst hn
 obtain⟨v,vs',rfl,hv,hvs⟩:=hargs.cons_left
 have hnil:=All2.nil_left hvs
 subst hnil
 have hv':v=.slice (some ⟨b,0,none⟩) zs.length cap:=hv
 subst hv'
 obtain⟨hYb,q1,⟨q2,q3,q4⟩,T,cs,q5,q6,q7⟩:=hj.1 kb b _ hM
 rw[flatten_ints,List.length_map,Nat.mul_one]at q7
 rw[List.length_map]at q2
 have hvs2:=ints_vals q7
 have hH:=holds_of_blockI q5 (ss:=zs) hvs2
 have hlt:=hY b hYb
 have hperm:=List.mergeSort_perm zs (fun x y=>decide (x≤y))
 refine(hf.some b 0 cap zs w hH hlt hbig).mono ?_
 rintro en w' ⟨rfl,q,os,rfl⟩
 obtain⟨g1,g2,g3,g4,g5⟩:=grownBy_sortedI (w:=w) (g:=b) (n:=q) (os:=os) (zs.mergeSort fun x y=>decide (x≤y)).toArray
 have hown:=ownsRow_sortedI (w:=w) (base:=0) (g:=b) (cap:=cap) (n:=q) (e:=T) (os:=os) (cur:=cs) (ss:=zs) (ts:=zs.mergeSort fun x y=>decide (x≤y)) hperm.length_eq (Nat.zero_le _) q5 q2 q3 q6
 have hoth:∀k,k<w.heap.size→k≠b→(Go.Sort.grow (Go.Sort.putRow (Value.int .i64) (Go.Sort.ahead w q) b 0 (zs.mergeSort fun x y=>decide (x≤y)).toArray) os).heap[k]?=w.heap[k]?:=fun k hk hne=>g5 k hk fun e=>hne (Option.some.inj e)
 refine⟨_,h,Y,rfl,⟨⟨g1,g2,g3,g4,fun k hk hy=>hoth k hk fun e=>hy (e▸hYb)⟩,Mem.le_refl _,fun p v e=>.inl e,fun p v hp=>?_,fun b' hy=>Nat.lt_of_lt_of_le (hY b' hy) g4,fun _ hy _=>hy⟩,?_,⟨[],rfl,trivial⟩⟩
 ·have h5:=hw p v hp
  have hs:=adr_spot h5
  by_cases hpb:p.block=b
  ·exfalso
   have h6:=q1 p.off
   rw[hs,hpb]at hp
   rw[hp]at h6
   cases h6
  ·rw[cell_heap (hoth p.block ?_ hpb)]
   ·exact h5
   ·rcases Nat.lt_or_ge p.block w.heap.size with h7|h7
    ·exact h7
    ·unfold World.cell? at h5
     rw[Array.getElem?_eq_none h7]at h5
     simp at h5
 ·refine hj.turn (Mem.le_refl _) (fun _ _ _ _ _ e=>e) (fun b' hne hy=>hoth b' (hY b' hy) hne) (fun _ e=>e) (.inl ⟨_,hM⟩) hYb ⟨q1,?_⟩
  rcases hown.2 with⟨h0,_⟩|⟨g,cap',cur,h1,_,h2,h3,h4,h6,h8⟩
  ·cases h0
  ·cases h1
   refine⟨⟨by rw[List.length_map,hperm.length_eq];exact h3,h4,fun r hr=>by obtain⟨b,_,rfl⟩:=List.mem_map.1 hr;rfl⟩,_,_,h2,h6,?_⟩
   rw[flatten_ints,List.length_map,hperm.length_eq]
   rw[show cur.toList.take (zs.length * 1)=_ from h8]
   exact vals_ints (h:=h) (by rw[←hvs2];exact q7) fun t ht=>hperm.mem_iff.1 ht
end Go.Ab
namespace Go.Ab
open Go.RowKit
section
variable{E:Env}{all:Array Oper}{s r r1 r2 r3 rg:St}{d ty:Nat}{pos:String}{after:Array Edge}{guard:Option (Nat×Bool)}{x y z:Operand}
theorem S.mkSliceP{t e bytes k k1 sz1:Nat}{cells1:List X}(hA:ApI E.P t e 1 bytes)(hg:Gd all s guard rg)(hd:(Nat.blt d 1000&&Nat.blt d E.nt)=true)
  (hx:OpS s x (.optr k1 1 0) r) (hl:look s (2000+k1)=some (.arrn sz1 [] cells1 [])) (hk9:E.fs.contains k=false:=by rfl) (hk1:Nat.blt k 1000=true:=by rfl):
  St1 E all ⟨some d,.buildSlice t 1 #[(0,x)],ty,pos,after,guard⟩ s (rg++(r++[(2000+k1,.arrn sz1 [] cells1 [])])) ((d,.own k 1)::[(2000+k,.arrn 1 [] [.optr k1 1 0] [])]) [k]:=
 St1.mk hg hd rfl (hx.looks.app ⟨hl,trivial⟩) fun U c a w hb hrr hal=>by
  rw[Nat.blt_eq]at hk1
  have hkU:k∉U:=hal k (by simp)
  obtain⟨hsz,zv,hz,hzs⟩:=hA.run
  have hxr:RepT c (.optr k1 1 0) (a.eval x):=hx.rep (c:=c) (a:=a) (w:=w) fun p hp=>hrr p (by simp[hp])
  obtain⟨m,hv,lv,e1,e2,e3⟩:=optr_of hxr
  obtain⟨_,hv',_,_,e4,_⟩:=arrn_of (hrr (2000+k1,.arrn sz1 [] cells1 []) (by simp))
  rw[e4]at e1
  cases e1
  obtain⟨b,l,cp,_,e5⟩:=e3 rfl
  have hcells:(a.eval x).cells= #[a.eval x]:=by rw[e5];rfl
  have hbase:∀(q:Array Value),q.size=1→All2 (RepC c) [.any] q.toList:=fun q hq=>by
   obtain⟨v,hv⟩:∃v,q= #[v]:=by
    refine⟨q[0]'(by omega),?_⟩
    apply Array.ext
    ·simp[hq]
    ·intro i h1 h2
     simp at h2
     subst h2
     rfl
   subst hv
   exact⟨trivial,trivial⟩
  obtain⟨cells,h1,h2⟩:=fill_rep (c:=c) (fun i=>some (i * 1,1)) [(0,.optr k1 1 0)] [(0,a.eval x)] [.any] (((Array.range (1 * 1)).map fun i=>(if 1 * 1=0 then #[]else zv.cells)[i % (if 1 * 1=0 then #[]else zv.cells).size]!)) [.optr k1 1 0] (hbase _ (by simp)) ⟨⟨rfl,by rw[hcells];exact⟨hxr,trivial⟩⟩,trivial⟩ rfl
  have hcs:cells.size=1:=by have:=h2.length;simpa using this.symm
  have hB:=below_alloc w (.cells cells e)
  obtain⟨g1,g2,g3,g4⟩:=hb.ownNew (nfs hk9) hkU (n:=1) (v:=.slice (some ⟨w.heap.size,0,none⟩) 1 1) hB (.inr ⟨rfl,by simp⟩)
  have hp:=hA.pos
  refine⟨.slice (some ⟨w.heap.size,0,none⟩) 1 1,_,w.alloc (.cells cells e),?_,g1,g2,⟨⟨_,_,_,rfl⟩,1,_,_,g3,Nat.le_refl _,fun _=>rfl⟩,?_,fun key u hkey _ hu=>g4 key u hkey hu⟩
  ·simp only[execOp,Instr.buildSlice,Sem.run_bind,run_underlying hA.und,Result.andThen_ok,hsz]
   simp at h1
   simp[hz,h1,newRow]
  ·intro p hp2
   simp only[List.mem_singleton]at hp2
   subst hp2
   refine Holds.mkArrn (e:=e) (n:=1) (vs:=cells.toList) (v1:=[]) (v2:=cells.toList) (v3:=[]) (pre:=[]) (post:=[]) (by omega) rfl g3 ⟨by simp[hcs],.inr ⟨w.heap.size,1,cells,rfl,Nat.zero_le _,heap_alloc_new w _,Nat.le_refl _,by unfold maxLen;omega,by rw[hcs],?_⟩⟩ ?_ (by simp) trivial (h2.mono fun _ _=>RepC.mono g2) trivial
   ·rw[List.take_of_length_le (by simp[hcs])]
   ·intro q hq
    simp only[List.nil_append,List.mem_singleton]at hq
    subst hq
    rfl
end
end Go.Ab
namespace Go.Ab
open Go.RowKit
def lookI:List (Int×X)→Int→Option X
 |[],_=>none
 |p::l,k=>if p.1=k then some p.2 else lookI l k
def mapI(l:List (Int×X)):List (X×X):=l.map fun p=>(.int .i64 p.1,p.2)
theorem int_key{h:Mem}{n:Int}{v:Value}(r:RepD h (.int .i64 n) v):v=.int .i64 n:=by cases r;rfl
theorem same_int(a b:Int):Instr.sameNow (.int .i64) (.int .i64 a) (.int .i64 b)=some (decide (b=a)):=by
 have h:(a==b)=decide (b=a):=by
  rw[Bool.eq_iff_iff,decide_eq_true_iff,beq_iff_eq]
  exact eq_comm
 simp only[Instr.sameNow,if_true,h]
theorem find_int{h:Mem}{k:Int}:∀{l:List (Int×X)}{es:List MapEntry}(i:Nat),All2 (MRel h) (mapI l) es→
  (lookI l k=none∧Instr.findNow (.int .i64) (.int .i64 k) es i=some none∧(∀m∈es,m.key≠.int .i64 k))∨
  ∃(j:Nat)(u:X)(m:MapEntry),lookI l k=some u∧Instr.findNow (.int .i64) (.int .i64 k) es i=some (some (i+j,m.val))∧RepV (pureC h) u m.val
 |[],[],i,_=>.inl ⟨rfl,rfl,(fun m hm=>by cases hm)⟩
 |p::l,m::es,i,hr=>by
  obtain⟨⟨h1,h2⟩,h3⟩:=hr
  have hk:=int_key h1
  by_cases hp:p.1=k
  ·refine .inr ⟨0,p.2,m,by simp[lookI,hp],?_,h2⟩
   rw[Instr.findNow,hk,same_int,decide_eq_true hp]
   rfl
  ·have hf:∀i,Instr.findNow (.int .i64) (.int .i64 k) (m::es) i=Instr.findNow (.int .i64) (.int .i64 k) es (i+1):=by
    intro i
    rw[Instr.findNow,hk,same_int,decide_eq_false hp]
   rcases find_int (k:=k) (i+1) h3 with⟨q1,q2,q3⟩|⟨j,u,m',q1,q2,q5⟩
   ·refine .inl ⟨by simp[lookI,hp,q1],by rw[hf];exact q2,fun m' hm=>?_⟩
    rcases List.mem_cons.1 hm with rfl|hm
    ·rw[hk]
     intro e
     cases e
     exact hp rfl
    ·exact q3 m' hm
   ·exact .inr ⟨j+1,u,m',by simp[lookI,hp,q1],by rw[hf,q2];congr 3;omega,q5⟩
 |[],_::_,_,h=>h.elim
 |_::_,[],_,h=>h.elim
section
variable{E:Env}{all:Array Oper}{s r1 r2 r3 rg:St}{d ty:Nat}{pos:String}{after:Array Edge}{guard:Option (Nat×Bool)}{x y z:Operand}
theorem S.lookupIn{t kt e k:Nat}{key:Int}{l:List (Int×X)}{es:List (X×X)}{u:X}(ht:E.P.underlying t=some (.map kt e))(hk:E.P.underlying kt=some (.int .i64))(hg:Gd all s guard rg)(hd:(Nat.blt d 1000&&Nat.blt d E.nt)=true)
  (hx:OpS s x (.mptr k) r1) (hy:OpS s y (.int .i64 key) r2) (hl:look s (1000+k)=some (.omap es)) (hes:es=mapI l) (hu:lookI l key=some u) (hnt:isTup u=false) (hk1:Nat.blt k 1000=true:=by rfl):
  St1 E all ⟨some d,.lookup t x y false,ty,pos,after,guard⟩ s (rg++(r1++(r2++[(1000+k,.omap es)]))) [(d,u)] []:=
 St1.val hg hd rfl (hx.looks.app (hy.looks.app ⟨hl,trivial⟩)) fun c A w _ hr=>by
  subst hes
  rw[Nat.blt_eq]at hk1
  obtain⟨b,h1,h0⟩:=mptr_of (hx.rep (c:=c) (a:=A) (w:=w) fun p hp=>hr p (by simp[hp]))
  obtain⟨b',mes,clock,h2,h3,_,h4⟩:=omap_of (hr (1000+k,.omap (mapI l)) (by simp)) hk1
  rw[h1]at h2
  cases h2
  obtain⟨h5,_⟩:=int_of (hy.rep (c:=c) (a:=A) (w:=w) fun p hp=>hr p (by simp[hp]))
  have hkey:MapKept.IsKey (.int .i64) (.int .i64 key):=rfl
  rcases find_int (k:=key) 0 h4 with⟨q1,_,_⟩|⟨j,u',m,q1,q2,q5⟩
  ·rw[q1]at hu;cases hu
  ·rw[q1]at hu
   cases hu
   refine⟨m.val,?_,V.toT (q5.mono (pure_ext rfl)) hnt⟩
   simp[execOp,h0,h5,Instr.lookup,run_underlying ht,MapKept.run_getObj_map h3,MapKept.run_checkKey hk hkey,MapKept.run_findKey hk q2]
theorem S.insertI{t kt e k:Nat}{key:Int}{u:X}{l:List (Int×X)}{es es':List (X×X)}(ht:E.P.underlying t=some (.map kt e))(hk:E.P.underlying kt=some (.int .i64))(hg:Gd all s guard rg)
  (hx:OpS s x (.mptr k) r1) (hy:OpS s y (.int .i64 key) r2) (hz:OpS s z u r3) (hu:okArg u=true) (hl:look s (1000+k)=some (.omap es)) (hes:es=mapI l) (hn:lookI l key=none) (hes':mapI (l++[(key,u)])=es') (hk1:Nat.blt k 1000=true:=by rfl):
  St1 E all ⟨none,.insert t x y z,ty,pos,after,guard⟩ s (rg++(r1++(r2++(r3++[(1000+k,.omap es)])))) [(1000+k,.omap es')] []:=
 St1.eff hg rfl (hx.looks.app (hy.looks.app (hz.looks.app ⟨hl,trivial⟩))) fun U c a w hb hr=>by
  subst hes
  subst hes'
  rw[Nat.blt_eq]at hk1
  obtain⟨b,h1,h0⟩:=mptr_of (hx.rep (c:=c) (a:=a) (w:=w) fun p hp=>hr p (by simp[hp]))
  obtain⟨b',mes,clock,h2,h3,hs,h4⟩:=omap_of (hr (1000+k,.omap (mapI l)) (by simp)) hk1
  rw[h1]at h2
  cases h2
  have hyr:=hy.rep (c:=c) (a:=a) (w:=w) fun p hp=>hr p (by simp[hp])
  obtain⟨h5,_⟩:=int_of hyr
  have hkD:RepD c.h (.int .i64 key) (.int .i64 key):=h5▸hyr
  have hzr:=hz.rep (c:=c) (a:=a) (w:=w) fun p hp=>hr p (by simp[hp])
  have hv:RepV (pureC c.h) u (a.eval z):=(args_clean (ys:=[u]) (vs:=[a.eval z]) ⟨hzr,trivial⟩ (by simp[hu])).1
  have hkey:MapKept.IsKey (.int .i64) (.int .i64 key):=rfl
  rcases find_int (k:=key) 0 h4 with⟨_,q2,q3⟩|⟨j,u',m,q1,_,_⟩
  ·obtain⟨p1,p2⟩:=hb.turnBox (w':={w with heap:=w.heap.setIfInBounds b (.map (mes.push ⟨.int .i64 key,a.eval z,clock⟩) (clock+1))}) h1 rfl rfl rfl (by simp) fun j hj=>(MapKept.heap_set h3).2 j hj
   refine⟨_,?_,p1,?_,fun key' y hkey hne hy=>p2 key' y hkey (fun e=>hne _ (List.mem_singleton.2 rfl) e.symm) hy⟩
   ·simp[execOp,h0,h5,Instr.mapUpdate,run_underlying ht,MapKept.run_getObj_map h3,MapKept.run_checkKey hk hkey,MapKept.run_findKey hk q2,MapKept.run_setObj_map _ h3]
   ·intro p hp
    simp only[List.mem_singleton]at hp
    subst hp
    refine Holds.mkMap hk1 h1 (MapKept.heap_set h3).1 (MapKept.stamped_push hs q3) ?_
    rw[Array.toList_push]
    simp only[mapI,List.map_append,List.map_cons,List.map_nil]
    exact h4.append ⟨⟨hkD,hv⟩,trivial⟩
  ·rw[q1]at hn;cases hn
end
section
variable{E:Env}{U:List Nat}{s:St}{code:Code}{Q:Exit→List Nat→St→Prop}{K:Type}[DecidableEq K]{M:HM K}
theorem OK.giveH(U':List Nat)(s1:St)(t:Nat)(kb:K){k:Nat}{cells cells':List X}(hl3:look s 3000=some (.res (HeapJ M)))(ht:look s t=some (.ptr k 0))(ht1:Nat.blt t 1000=true)(hb:look s (1000+k)=some (.box cells))(hk1:Nat.blt k 1000=true)
  (hkU:U'.contains k=false) (hl:Le s s1) (ho:s1.all (okKey U')=true) (h3:s1.all (fun p=>!Nat.beq p.1 3000)=true) (hc:CellsN cells cells')
  (h:∀b,OK E code Q U' ((t,.raw (.pointer (some ⟨b,0,none⟩)))::(3000,.res (HeapJ (M.set kb (some (b,.box cells')))))::s1)) (hk9:E.fs.contains k=false:=by rfl):OK E code Q U s:=
 OK.giveR (J0:=HeapJ M) (J:=fun b=>HeapJ (M.set kb (some (b,.box cells')))) U' s1 t hl3 ht ht1 hb hk1 hk9 hkU hl ho h3 (fun _=>HeapJ.stable _)
  (fun b h Y T vs w hj hw hv hn hy=>by
   obtain⟨c,rfl,hv⟩:=hv
   have hr:=hc.rep hv
   refine hj.turn (Mem.le_refl _) (fun _ _ _ _ _ e=>e) (fun _ _ _=>rfl) (fun _ e=>.inl e) (.inr hy) (.inr rfl) ⟨hn,T,vs,hw,?_⟩
   rw[List.take_of_length_le (by rw[hr.length];exact Nat.le_refl _)]
   exact hr) h
end
end Go.Ab
namespace Go.Ab
open Go.RowKit
section
variable{E:Env}{all:Array Oper}{s r r1 r2 r3 rg:St}{d ty:Nat}{pos:String}{after:Array Edge}{guard:Option (Nat×Bool)}{x y z:Operand}
theorem S.callGT{g:Nat}{fs:List Nat}{os:List Operand}{at_:Array TypeId}{ys:List X}{res:X}{t t':St}(hf:CtGT E.P g fs ys t t' res)(hT:TabOk E)
  (hcall:∀args w,(callFunc g args).run E.P w=.ok (.enter g args) w) (hg:Gd all s guard rg) (hd:(Nat.blt d 1000&&Nat.blt d E.nt)=true) (ha:OpsS s os ys r) (ho:ys.all (fun y=>lendV fs t y&&!isTup y)=true)
  (hl:Looks s t) (ht:t.all (lendKey fs t)=true) (ht2:t'.all (lendKey fs t)=true) (hcov:cover fs t t'=true) (hhas:fs.all (fun k=>hasB t k||hasA t k)=true) (hdis:fs.all (fun k=>!E.fs.contains k)=true) (hres:lendT fs t res=true):
  St1 E all ⟨some d,.call {callee:=.value (.func g),args:=os.toArray,argTypes:=at_},ty,pos,after,guard⟩ s (rg++(r++t)) ((d,res)::t') []:=by
 simp only[Bool.and_eq_true,Nat.blt_eq]at hd
 refine⟨?_,hg.looks.app (ha.looks.app hl)⟩
 intro U c a w hb hr _ next Q hn
 have hw:=hg.wanted (o:=⟨some d,.call {callee:=.value (.func g),args:=os.toArray,argTypes:=at_},ty,pos,after,guard⟩) (fun p hp=>hr p (List.mem_append_left _ hp))
 have hargs:=args_lend (fs:=fs) (t:=t) (ha.rep (c:=c) (a:=a) (w:=w) fun p hp=>hr p (by simp[hp])) ho
 unfold opIn
 rw[if_pos hw]
 refine⟨fun _ _=>trivial,?_⟩
 rw[Oper.semAt_eq _ _ _ fun cl he=>by cases he]
 have hfo:a.eval (.func g)=.func (.func g) #[] #[]:=rfl
 have hrun:(execOp a.eval ⟨some d,.call {callee:=.value (.func g),args:=os.toArray,argTypes:=at_},ty,pos,after,guard⟩).run E.P w=.ok (.enter g (os.map a.eval).toArray) w:=by
  simp[execOp,resolve,hfo,Deferred.ofValue,invoke,hcall]
 rw[hrun]
 refine⟨(fun h=>by cases h),?_⟩
 have hholds:∀p∈t,Holds c a w p.1 p.2:=fun p hp=>hr p (by simp[hp])
 have hto:TabOut E.P ((c.lend fs t).out fs):=fun n hn' g' hg' hX=>hT.out n hn' g' hg' (by
  have hlt:=hT.tab.lt n hn' g' hg'
  rcases hX with hX|⟨k,_,hX⟩|⟨k,m,hv,_,hX,hX2⟩
  ·exact hX.elim
  ·rcases(hb.loc k g' (lend_loc hX).2.2).1 with h|h
   ·exact absurd h (Nat.not_le.2 hlt)
   ·exact h.2
  ·rcases(hb.arr k m hv g' (lend_arr hX).2.2 hX2).1 with h|h
   ·exact absurd h (Nat.not_le.2 hlt)
   ·exact h.2)
 have hc0:=hf (c.lend fs t) w (os.map a.eval) (hT.now hb) hto (lend_ctx hb) (fun p hp a'=>(hholds p hp).lend (List.all_eq_true.1 ht p hp)) hargs
 have h1:CallsIn E.F (0 - 1) E.P g (os.map a.eval).toArray w _:=(callsIn_wide (n:=0)).2 hc0
 refine h1.mono ?_
 rintro en w' ⟨u,c3,rfl,hpg⟩
 have hext0:Ext (c.lend fs t) c3:=by
  refine⟨hpg.le,fun k b e=>?_,fun k m hv lv e=>?_⟩
  ·obtain⟨hk,hhb,_⟩:=lend_loc e
   obtain⟨h1,h2,_⟩:=cover_of hcov hk
   obtain⟨x0,hx0,hm⟩:=hasB_mem (h2 hhb)
   obtain⟨b',q1⟩:=boxes_of (hpg.wr _ hm {tmps:=#[],defers:=[]}) hx0 h1
   have:=hpg.loc k b' q1
   rw[e]at this
   cases this
   exact q1
  ·obtain⟨hk,hha,_⟩:=lend_arr e
   obtain⟨h1,_,h2⟩:=cover_of hcov hk
   obtain⟨x0,hx0,hm⟩:=hasA_mem (h2 hha)
   obtain⟨⟨_,_,_⟩,q1⟩:=arrs_of (hpg.wr _ hm {tmps:=#[],defers:=[]}) hx0
   obtain⟨m0,hv0,lv0,q2,q3,q4⟩:=hpg.arr k _ _ _ q1
   rw[e]at q2
   cases q2
   exact⟨_,_,_,q1,q3,q4⟩
 have hB:Backs E c c3 w w' fs t:=by
  refine⟨fun k hk=>?_,fun k hk=>?_,fun k hk=>⟨fun h=>?_,fun h=>?_⟩,hpg.below,hpg.le,fun p v hp=>hpg.new p v hp,hpg.ok,hpg.out,hext0⟩
  ·have:=List.all_eq_true.1 hdis k hk;simpa using this
  ·have:=List.all_eq_true.1 hhas k hk;simpa using this
  ·obtain⟨x0,hx0,hm⟩:=hasB_mem h
   exact boxes_of (hholds _ hm) hx0 (cover_of hcov hk).1
  ·obtain⟨x0,hx0,hm⟩:=hasA_mem h
   exact arrs_of (hholds _ hm) hx0
 have hext:=hB.ext'
 have hdt:d<a.tmps.size:=by rw[hb.nt];exact hd.2
 have tk:∀p∈t',1000≤p.1:=by
  intro p hp
  have h:=List.all_eq_true.1 ht2 p hp
  obtain⟨key,y⟩:=p
  unfold lendKey at h
  cases y
  case box cells=>simp only[Bool.and_eq_true,Nat.ble_eq]at h;exact h.1.1.1.1
  case arr sz rows=>simp only[Bool.and_eq_true,Nat.ble_eq]at h;show 1000≤key;have:=h.1.1.1;omega
  case omap es=>simp only[Bool.and_eq_true,Nat.ble_eq]at h;exact h.1.1.1
  case arrn sz pre mid post=>simp only[Bool.and_eq_true,Nat.ble_eq]at h;show 1000≤key;have:=h.1.1.1.1;omega
  all_goals cases h
 refine hn (c.back c3 fs t) _ w' ((hb.back hB).put _ _) hext ?_ ?_
 ·intro p hp
  rcases List.mem_cons.1 hp with rfl|hp
  ·unfold Holds
   rw[if_pos hd.1,getD_put hdt]
   exact hpg.res.back hres
  ·have h:=Holds.fromLent (c:=c) (a':=a) (hpg.wr p hp a) (List.all_eq_true.1 ht2 p hp)
   exact h.put (by have:=tk p hp;omega) u
 ·intro key y hk2 hy
  have hne:d≠key:=hk2 (d,res) (by simp)
  by_cases h1:key<1000
  ·refine Holds.put ?_ hne u
   unfold Holds at hy⊢
   rw[if_pos h1]at hy⊢
   exact hy.mono hext
  ·refine(Holds.back hb hB h1 (fun k hk3=>⟨fun h e=>?_,fun h e=>?_⟩) hy).put hne u
   ·obtain⟨x0,_,hm⟩:=hasB_mem ((cover_of hcov hk3).2.1 h)
    exact hk2 _ (List.mem_cons_of_mem _ hm) e.symm
   ·obtain⟨x0,_,hm⟩:=hasA_mem ((cover_of hcov hk3).2.2 h)
    exact hk2 _ (List.mem_cons_of_mem _ hm) e.symm
end
end Go.Ab
