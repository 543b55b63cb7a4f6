import Derived.Laws.MakeOwn
import Derived.WalkSpells
import Derived.Test.YtpbalelbenmmbaaGreatDoorFv
namespace Go.Ab
open Go.RowKit
structure MkI(P:Program)(e:TypeId)(zrow:List X):Prop where
 ex:∃i z,P.info? e=some i∧i.zero=some z∧∀h,All2 (RepD h) zrow z.cells.toList
theorem flat_repl{α:Type}(l:List α):∀(n i:Nat),(List.replicate n l).flatten[i]?=if i<n * l.length then l[i % l.length]? else none
 |0,i=>by simp
 |n+1,i=>by
  rw[List.replicate_succ,List.flatten_cons,List.getElem?_append]
  split
  ·rename_i h
   rw[Nat.mod_eq_of_lt h,if_pos (by rw[Nat.succ_mul];omega)]
  ·rename_i h
   rw[flat_repl l n (i - l.length),Nat.succ_mul]
   by_cases h1:i<n * l.length+l.length
   ·rw[if_pos (by omega),if_pos h1,←Nat.mod_eq_sub_mod (by omega)]
   ·rw[if_neg (by omega),if_neg h1]
section
variable{E:Env}{all:Array Oper}{s r r1 r2 r3 rg:St}{d ty:Nat}{pos:String}{after:Array Edge}{guard:Option (Nat×Bool)}{x y z:Operand}
theorem S.make{t e sz bytes n k:Nat}{j:Int}{zrow:List X}(hA:ApI E.P t e sz bytes)(hM:MkI E.P e zrow)(hg:Gd all s guard rg)(hd:(Nat.blt d 1000&&Nat.blt d E.nt)=true)(hx:OpS s x (.int .i64 j) r1)(hy:OpS s y (.int .i64 j) r2)(hj:j=n)(hb1:n * bytes≤140737488355328)(hb2:n≤maxLen)
  (hk9:E.fs.contains k=false:=by rfl) (hk1:Nat.blt k 1000=true:=by rfl):
  St1 E all ⟨some d,.makeSlice t x y,ty,pos,after,guard⟩ s (rg++(r1++r2)) ((d,.own k n)::[(2000+k,.arr sz (List.replicate n zrow))]) [k]:=
 St1.mk hg hd rfl (hx.looks.app hy.looks) fun U c a w hb hrr hal=>by
  subst hj
  rw[Nat.blt_eq]at hk1
  have hkU:k∉U:=hal k (by simp)
  obtain⟨ev,_⟩:=int_of (hx.rep (c:=c) (a:=a) (w:=w) fun p hp=>hrr p (by simp[hp]))
  obtain⟨ev2,_⟩:=int_of (hy.rep (c:=c) (a:=a) (w:=w) fun p hp=>hrr p (by simp[hp]))
  obtain⟨i,zv,i1,i2,i3,i4,i5⟩:=hA.ex
  obtain⟨i',zv',m1,m2,m3⟩:=hM.ex
  rw[i1]at m1
  cases m1
  rw[i2]at m2
  cases m2
  have hzl:zrow.length=sz:=by rw[(m3 c.h).length,←i5];simp
  subst i3
  have hby:(i.bytes:Int) * n≤281474976710656:=by
   have e1:((i.bytes:Int) * n)=((n * bytes:Nat):Int):=by rw[←i4,Int.natCast_mul,Int.mul_comm]
   rw[e1]
   omega
  have hrun:=run_make (P:=E.P) w t e i zv hA.und i1 i2 .i64 .i64 n n (by omega) (Int.le_refl _) hby (by unfold maxLen at hb2;omega)
  simp only[Int.toNat_natCast]at hrun
  have hB:=below_alloc w (.cells (madeCells zv.cells (n * i.size)) e)
  obtain⟨g1,g2,g3,g4⟩:=hb.ownNew (nfs hk9) hkU (n:=n) (v:=.slice (some ⟨w.heap.size,0,none⟩) n n) hB (.inr ⟨rfl,by simp⟩)
  refine⟨.slice (some ⟨w.heap.size,0,none⟩) n n,_,_,?_,g1,g2,⟨⟨_,_,_,rfl⟩,n,_,_,g3,Nat.le_refl _,fun _=>rfl⟩,?_,fun key u hkey _ hu=>g4 key u hkey hu⟩
  ·simp only[execOp,ev,ev2,Sem.run_bind,hrun,Result.andThen_ok]
   rfl
  ·intro p hp
   simp only[List.mem_singleton]at hp
   subst hp
   have hms:=size_madeCells zv.cells (n * i.size)
   refine Holds.mkArr (e:=e) (vs:=(madeCells zv.cells (n * i.size)).toList) (by omega) (by rw[List.length_replicate];exact g3) ⟨by simp[hms],.inr ⟨w.heap.size,n,_,by rw[List.length_replicate],Nat.zero_le _,heap_alloc_new w _,by simp,hb2,by rw[hms],?_⟩⟩ (fun q hq=>by rw[List.eq_of_mem_replicate hq];exact hzl) ?_
   ·rw[List.length_replicate,List.take_of_length_le (by simp[hms])]
   ·refine All2.of_get (by rw[flatten_length (sz:=i.size) (fun q hq=>by rw[List.eq_of_mem_replicate hq];exact hzl)];simp[hms]) fun j u v hu hv=>?_
    rw[flat_repl]at hu
    split at hu
    ·rename_i hlt
     simp only[madeCells,Array.toList_map,Array.toList_range,List.getElem?_map,List.getElem?_range (show j<n * i.size by rw[←hzl];exact hlt),Option.map_some,Option.some.injEq]at hv
     subst hv
     have hz0:0<i.size:=hA.pos
     have hlt2:j % zrow.length<zv.cells.size:=by rw[i5,hzl];exact Nat.mod_lt _ hz0
     have h1:=(m3 c.h).get hu (b:=zv.cells[j % zrow.length]) (by rw[Array.getElem?_toList,Array.getElem?_eq_getElem hlt2])
     have e1:zv.cells[j % zv.cells.size]! =zv.cells[j % zrow.length]:=by
      rw[show j % zv.cells.size=j % zrow.length by rw[i5,hzl]]
      exact getElem!_pos zv.cells (j % zrow.length) hlt2
     rw[e1]
     exact h1.mono g2.h
    ·cases hu
theorem S.nilCheckO{k n off sz:Nat}{rows:List (List X)}(hg:Gd all s guard rg)(hd:(Nat.blt d 1000&&Nat.blt d E.nt)=true)(hx:OpS s x (.optr k n off) r)(hl:look s (2000+k)=some (.arr sz rows))(hn:rows.length=n):
  St1 E all ⟨some d,.nilCheck x,ty,pos,after,guard⟩ s (rg++(r++[(2000+k,.arr sz rows)])) [(d,.optr k n off)] []:=
 St1.val hg hd rfl (hx.looks.app ⟨hl,trivial⟩) fun c A w hh hr=>by
  subst hn
  have h0:=hx.rep (c:=c) (a:=A) (w:=w) fun p hp=>hr p (by simp[hp])
  obtain⟨m,hv,lv,e1,e2,e3⟩:=optr_of h0
  obtain⟨v,e',vs,g1,g2,g3,g4⟩:=arr_of (hr (2000+k,.arr sz rows) (by simp))
  rw[e1]at g1
  cases g1
  obtain⟨b,l,cp,_,hp⟩:=e3 rfl
  refine⟨A.eval x,?_,h0⟩
  simp only[execOp,hp]
  rfl
theorem S.eqnil{t t2 e:Nat}{rows:List (List X)}(ht:E.P.underlying t=some (.slice e))(hg:Gd all s guard rg)(hd:(Nat.blt d 1000&&Nat.blt d E.nt)=true)(hx:OpS s x (.sl rows) r)(hne:0<rows.length):
  St1 E all ⟨some d,.binOp .eql t x (.const (.slice none 0 0)) t2,ty,pos,after,guard⟩ s (rg++r) [(d,.bool false)] []:=
 St1.val hg hd rfl hx.looks fun c A w _ hr=>by
  obtain⟨ad,cap,hv,h1,h2,h3⟩:=sl_of (hx.rep (c:=c) (a:=A) (w:=w) hr)
  rcases h3 with h3|⟨b,off,sz',vs,rfl,h3,h4,h5,h6⟩
  ·rw[h3]at hne;simp at hne
  ·refine⟨.bool false,?_,RepD.toT (.bool _)⟩
   have hc:A.eval (.const (.slice none 0 0))=.slice none 0 0:=rfl
   have hq:(eqGuard .eql t x (.const (.slice none 0 0)) (.slice (some ⟨b,off,none⟩) rows.length cap) (.slice none 0 0)).run E.P w=.ok () w:=by simp[eqGuard]
   have hr:=Lib.run_eql_slice_nil (P:=E.P) w t e (some ⟨b,off,none⟩) rows.length cap 0 0 ht
   simp only[execOp,hv,hc,Sem.run_bind,hq,Result.andThen_ok,hr]
   rfl
theorem set_flat{α:Type}{sz:Nat}{us:List α}(hu:us.length=sz):∀{rows:List (List α)}{i:Nat},(∀q∈rows,q.length=sz)→i<rows.length→(rows.set i us).flatten=rows.flatten.take (i * sz)++(us++rows.flatten.drop (i * sz+sz))
 |[],_,_,h=>by simp at h
 |q::rows,0,hq,_=>by
  have h1:=hq q List.mem_cons_self
  simp only[List.set_cons_zero,List.flatten_cons,Nat.zero_mul,List.take_zero,List.nil_append,Nat.zero_add]
  rw[←h1,List.drop_left]
 |q::rows,i+1,hq,h=>by
  have h1:=hq q List.mem_cons_self
  have ih:=set_flat hu (rows:=rows) (i:=i) (fun q' h'=>hq q' (List.mem_cons_of_mem _ h')) (by simpa using h)
  simp only[List.set_cons_succ,List.flatten_cons]
  rw[ih,Nat.succ_mul,List.take_append,List.take_of_length_le (l:=q) (by omega),List.append_assoc,show i * sz+sz - q.length=i * sz by omega,List.drop_append,List.drop_of_length_le (l:=q) (by omega),List.nil_append,show i * sz+sz+sz - q.length=i * sz+sz by omega]
theorem take_store{α:Type}{l news:List α}{a s n:Nat}(h1:news.length=s)(h2:a+s≤n)(h3:n≤l.length):(l.take a++(news++l.drop (a+s))).take n=(l.take n).take a++(news++(l.take n).drop (a+s)):=by
 have e1:(l.take a).take n=l.take a:=by rw[List.take_take,Nat.min_eq_right (by omega)]
 have e2:(l.take n).take a=l.take a:=by rw[List.take_take,Nat.min_eq_left (by omega)]
 have e3:(l.take a).length=a:=by rw[List.length_take,Nat.min_eq_left (by omega)]
 rw[List.take_append,e1,e2,e3,List.take_append,List.take_of_length_le (l:=news) (by omega),h1,List.drop_take,Nat.sub_sub]
theorem S.ostore{T k n i off sz:Nat}{us:List X}{rows rows':List (List X)}(ht:TyI E.P T true sz)(hg:Gd all s guard rg)(hx:OpS s x (.optr k n off) r1)(hy:OpS s y (.agg us) r2)(hl:look s (2000+k)=some (.arr sz rows))(hn:rows.length=n)(hoff:off=i * sz)(hi:i<n)(hus:us.length=sz)
  (ho:us.all okSt1=true) (hD:us.all okD=true) (hrows:rows.set i us=rows') (hk1:Nat.blt k 1000=true:=by rfl):
  St1 E all ⟨none,.store T x y,ty,pos,after,guard⟩ s (rg++(r1++(r2++[(2000+k,.arr sz rows)]))) [(2000+k,.arr sz rows')] []:=by
 subst hrows
 subst hn
 subst hoff
 rw[Nat.blt_eq]at hk1
 refine⟨?_,hg.looks.app (hx.looks.app (hy.looks.app ⟨hl,trivial⟩))⟩
 intro U c a w hb hr hal next Q hnx
 have hw:=hg.wanted (o:=⟨none,.store T x y,ty,pos,after,guard⟩) (fun p hp=>hr p (List.mem_append_left _ hp))
 obtain⟨m,hv,lv,e1,e2,e3⟩:=optr_of (hx.rep (c:=c) (a:=a) (w:=w) fun p hp=>hr p (by simp[hp]))
 obtain⟨v,e',vs,g1,g2,g3,g4⟩:=arr_of (hr (2000+k,.arr sz rows) (by simp))
 rw[e1]at g1
 cases g1
 obtain⟨b,l,cp,rfl,hp⟩:=e3 rfl
 have hyr:=hy.rep (c:=c) (a:=a) (w:=w) fun p hp=>hr p (by simp[hp])
 obtain⟨hc,hone⟩:=cells_of hyr ho
 have hds:=Ds_of hc (by simpa[cellsX]using hD)
 have hcl:=hc.length
 have hcs:(a.eval y).cells.toList.length=sz:=by rw[←hcl];exact hus
 rcases g2.2 with⟨h0,_⟩|⟨g,cap,cur,hs,hz,hgc,hnc,hcm,hcs2,htake⟩
 ·cases h0
 cases hs
 have hvl:vs.length=rows.length * sz:=g2.1
 have hle:i * sz+sz≤rows.length * sz:=by rw[←Nat.succ_mul];exact Nat.mul_le_mul_right _ hi
 have hle2:rows.length * sz≤cp * sz:=Nat.mul_le_mul_right _ hnc
 have hst:=run_storeCells_at E.P b (i * sz) e' (a.eval y).cells.toList 0 cur w hgc (by simp only[Nat.add_zero];omega) hone
 simp only[Nat.add_zero]at hst
 obtain⟨w',hw'⟩:∃w',w'=w.setRow b (cur.toList.take (i * sz)++(a.eval y).cells.toList++cur.toList.drop (i * sz+(a.eval y).cells.toList.length)).toArray:=⟨_,rfl⟩
 have hgb:w.grownBy w' (some b):=by
  subst hw'
  exact⟨rfl,rfl,rfl,by simp,fun k _ hk=>setRow_other w b k _ (fun e=>hk (by rw[e]))⟩
 obtain⟨p1,p2,p3,p4⟩:=hb.append (n':=rows.length) (v':=.slice (some ⟨b,0,none⟩) rows.length cp) e1 hgb (Nat.le_refl _) (fun _=>rfl) (.inl rfl) (not_dfr g2)
 have hrun:(execOp a.eval ⟨none,.store T x y,ty,pos,after,guard⟩).run E.P w=.ok .skip w':=by
  subst hw'
  have hcs':(a.eval y).cells.size=sz:=by simpa using hcs
  simp[execOp,hp,Instr.storeAt,Instr.sureAddr,storeVar,ht.size,hcs',hst]
 unfold opIn
 rw[if_pos hw]
 refine⟨fun _ _=>trivial,?_⟩
 rw[Oper.semAt_eq _ _ _ (fun cl he=>by cases he),hrun]
 refine hnx _ a w' p1 p2 ?_ ?_
 ·intro p hp
  simp only[List.mem_singleton]at hp
  subst hp
  have hrl:∀q∈rows.set i us,q.length=sz:=fun q hq=>by
   rcases List.mem_or_eq_of_mem_set hq with h|h
   ·exact g3 q h
   ·rw[h];exact hus
  refine(Holds.mkArr (e:=e') (vs:=vs.take (i * sz)++((a.eval y).cells.toList++vs.drop (i * sz+sz))) hk1 (by rw[List.length_set];exact p3) ?_ hrl ?_).2
  ·rw[List.length_set]
   refine⟨?_,.inr ⟨b,cp,_,rfl,Nat.zero_le _,by rw[hw'];exact setRow_heap w b cur _ e' _ hgc,hnc,hcm,?_,?_⟩⟩
   ·simp only[List.length_append,List.length_take,List.length_drop,hcs,hvl];omega
   ·simp only[List.size_toArray,List.length_append,List.length_take,List.length_drop,Array.length_toList,hcs,hcs2];omega
   ·rw[hcs,←htake]
    simp only[List.append_assoc]
    exact take_store (n:=rows.length * sz) hcs hle (Nat.le_trans hle2 (by simp[hcs2]))
  ·rw[set_flat hus g3 hi]
   exact((g4.take (i * sz)).append (hds.append (g4.drop (i * sz+sz)))).mono fun _ _=>RepD.mono p2.h
 ·intro key u hk hu
  have hne:(2000+k:Nat)≠key:=hk (2000+k,.arr sz (rows.set i us)) (by simp)
  by_cases h1:key<1000
  ·unfold Holds at hu⊢
   rw[if_pos h1]at hu⊢
   exact hu.mono p2
  ·exact p4 key u h1 (fun e=>hne e.symm) hu
end
end Go.Ab
