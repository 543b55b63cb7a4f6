import Derived.Laws.Concat
import Derived.Lib.Join
import Derived.Test.YtpbalelbenmmbaaGreatDoorFy
namespace Go.Ab
open Go.RowKit
theorem Ct.ofCalls{P:Program}{f:Nat}{args:List X}{res:X}(h:∀(m:Mem)(w:World)(vs:List Value),(∀p v,m p=some v→w.cell? p=some v)→All2 (RepV (pureC m)) args vs→Calls P f vs.toArray w fun e w'=>∃v,e=.returned v∧Below w.heap.size w w'∧RepT (pureC m) res v):Ct P f args res:=by
 intro m w vs hw ha
 refine(h m w vs hw ha).mono ?_
 rintro e w' ⟨v,rfl,hB,hr⟩
 exact⟨v,m,rfl,hB,Mem.le_refl m,fun _ _ h=>.inl h,fun p v hp=>by rw[hB.cell (block_lt_of_cell (hw p v hp))];exact hw p v hp,hr⟩
structure JoinI(P:Program)(f:Nat):Prop where
 j0:∀(a:Option Addr)(c:Nat)(sep:ByteArray)(w:World),Calls P f #[.slice a 0 c,.string sep] w fun e w'=>e=.returned (.string ⟨#[]⟩)∧w'=w
 j1:∀(bk o c:Nat)(xs:List ByteArray)(sep:ByteArray)(w:World),(∀(j:Nat)(x:ByteArray),xs[j]?=some x→w.cell? ⟨bk,o+j,none⟩=some (.string x))→bk<w.heap.size→xs.length≤140737488355328→xs.length≤c→(Lib.join (xs.map (·.data.toList)) sep.data.toList).length≤140737488355328→
  Calls P f #[.slice (some ⟨bk,o,none⟩) xs.length c,.string sep] w fun e w'=>e=.returned (.string ⟨(Lib.join (xs.map (·.data.toList)) sep.data.toList).toArray⟩)∧Below w.heap.size w w'
theorem flat_strs(l:List (List UInt8)):(l.map fun s=>[X.str s]).flatten=l.map X.str:=by
 induction l with
 |nil=>rfl
 |cons s l ih=>simp only[List.map_cons,List.flatten_cons,ih,List.singleton_append]
theorem strs_of{h:Mem}:∀{l:List (List UInt8)}{vs:List Value},All2 (RepD h) (l.map X.str) vs→vs=l.map fun s=>Value.string ⟨s.toArray⟩
 |[],[],_=>rfl
 |s::l,v::vs,h=>by
  obtain⟨h1,h2⟩:=h
  cases h1
  rw[strs_of h2]
  rfl
 |[],_::_,h=>h.elim
 |_::_,[],h=>h.elim
theorem JoinI.ct{P:Program}{f:Nat}(hJ:JoinI P f){l:List (List UInt8)}{sep:List UInt8}(hn:l.length≤100000)(hlen:(Lib.join l sep).length≤140737488355328):Ct P f [.sl (l.map fun s=>[.str s]),.str sep] (.str (Lib.join l sep)):=by
 refine Ct.ofCalls fun m w vs hw ha=>?_
 obtain⟨v1,vs',rfl,h1,h2⟩:=ha.cons_left
 obtain⟨v2,vs2,rfl,h3,h4⟩:=h2.cons_left
 have:=h4.nil_left
 subst this
 have h3':RepD m (.str sep) v2:=h3
 cases h3'
 have h1':RepT (pureC m) (.sl (l.map fun s=>[.str s])) v1:=h1
 have hs:RepD m (.str (Lib.join l sep)) (.string ⟨(Lib.join l sep).toArray⟩):=.str _ (by unfold maxLen;omega)
 obtain⟨ad,cap,hv,q1,q2,q3⟩:=sl_of h1'
 rw[List.length_map]at hv q1
 subst hv
 rcases q3 with q3|⟨b,off,sz',cs,rfl,q4,q5,q6,q7⟩
 ·have hl:l=[]:=List.map_eq_nil_iff.1 q3
  subst hl
  refine(hJ.j0 ad cap ⟨sep.toArray⟩ w).mono ?_
  rintro e w' ⟨rfl,rfl⟩
  exact⟨_,rfl,Below.refl _ _,hs⟩
 ·obtain⟨xs,hxs⟩:∃xs:List ByteArray,xs=l.map fun s=>(⟨s.toArray⟩:ByteArray):=⟨_,rfl⟩
  have hcs:cs=l.map fun s=>Value.string ⟨s.toArray⟩:=by
   refine strs_of (h:=m) (All2.of_get (by rw[←q5,flat_strs]) fun i x v hx hv=>q7 i x v (by rw[flat_strs];exact hx) hv)
  have hlx:xs.length=l.length:=by rw[hxs,List.length_map]
  have hdat:xs.map (·.data.toList)=l:=by rw[hxs,List.map_map];exact List.map_id'' (fun s=>rfl) l
  have hcell:∀(j:Nat)(x:ByteArray),xs[j]?=some x→w.cell? ⟨b,off+j,none⟩=some (.string x):=by
   intro j x hx
   refine hw _ _ (q6 j _ ?_)
   rw[hcs,List.getElem?_map]
   rw[hxs,List.getElem?_map]at hx
   cases hl:l[j]? with
   |none=>rw[hl]at hx;cases hx
   |some s=>rw[hl]at hx;cases hx;rfl
  by_cases h0:l=[]
  ·subst h0
   refine(hJ.j0 _ cap ⟨sep.toArray⟩ w).mono ?_
   rintro e w' ⟨rfl,rfl⟩
   exact⟨_,rfl,Below.refl _ _,hs⟩
  ·have hpos:0<l.length:=List.length_pos_iff.2 h0
   have hbk:b<w.heap.size:=by
    have hx0:xs[0]?=some xs[0]:=List.getElem?_eq_getElem (by omega)
    exact block_lt_of_cell (a:=⟨b,off+0,none⟩) (hcell 0 _ hx0)
   have hc:=hJ.j1 b off cap xs ⟨sep.toArray⟩ w hcell hbk (by omega) (by omega) (by rw[hdat];exact hlen)
   rw[hlx,hdat]at hc
   refine hc.mono ?_
   rintro e w' ⟨rfl,hB⟩
   exact⟨_,rfl,hB,hs⟩
end Go.Ab
namespace Go.Ab
open Go.RowKit
structure FtI(P:Program)(T f o Tf:Nat):Prop where
 ex:∃fields fl,P.underlying T=some (.struct fields)∧fields[f]?=some fl∧fl.offset=o∧fl.type=Tf
end Go.Ab
namespace Go.Ab
open Go.RowKit
section
variable{E:Env}{all:Array Oper}{s r1 r2 rg:St}{ty:Nat}{pos:String}{after:Array Edge}{guard:Option (Nat×Bool)}{x y:Operand}
theorem S.ostore1{T k n i off sz:Nat}{u:X}{rows rows':List (List X)}(ht:TyI E.P T false sz)(h1s:sz=1)(hg:Gd all s guard rg)(hx:OpS s x (.optr k n off) r1)(hy:OpS s y u r2)(hl:look s (2000+k)=some (.arr sz rows))(hn:rows.length=n)(hoff:off=i * sz)(hi:i<n) 
  (ho:okSt1 u=true) (hD:okD u=true) (hrows:rows.set i [u]=rows') (hk1:Nat.blt k 1000=true:=by rfl):
  St1 E all ⟨none,.store T x y,ty,pos,after,guard⟩ s (rg++(r1++(r2++[(2000+k,.arr sz rows)]))) [(2000+k,.arr sz rows')] []:=by
 subst hrows
 subst hn
 subst hoff
 rw[Nat.blt_eq]at hk1
 refine⟨?_,hg.looks.app (hx.looks.app (hy.looks.app ⟨hl,trivial⟩))⟩
 intro U c a w hb hr hal next Q hnx
 have hw:=hg.wanted (o:=⟨none,.store T x y,ty,pos,after,guard⟩) (fun p hp=>hr p (List.mem_append_left _ hp))
 obtain⟨m,hv,lv,e1,e2,e3⟩:=optr_of (hx.rep (c:=c) (a:=a) (w:=w) fun p hp=>hr p (by simp[hp]))
 obtain⟨v,e',vs,g1,g2,g3,g4⟩:=arr_of (hr (2000+k,.arr sz rows) (by simp))
 rw[e1]at g1
 cases g1
 obtain⟨b,l,cp,rfl,hp⟩:=e3 rfl
 have hyr:=hy.rep (c:=c) (a:=a) (w:=w) fun p hp=>hr p (by simp[hp])
 have hok:okSt u=true:=by cases u<;>first|exact ho|cases ho
 obtain⟨hc,hone⟩:=cells_of hyr hok
 have hcx:cellsX u=[u]:=by cases u<;>first|rfl|cases ho
 rw[hcx]at hc
 have hus:[u].length=sz:=h1s.symm
 have hds:=Ds_of hc (by simpa using hD)
 have hcl:=hc.length
 have hcs:(a.eval y).cells.toList.length=sz:=by rw[←hcl];exact hus
 rcases g2.2 with⟨h0,_⟩|⟨g,cap,cur,hs,hz,hgc,hnc,hcm,hcs2,htake⟩
 ·cases h0
 cases hs
 have hvl:vs.length=rows.length * sz:=g2.1
 have hle:i * sz+sz≤rows.length * sz:=by rw[←Nat.succ_mul];exact Nat.mul_le_mul_right _ hi
 have hle2:rows.length * sz≤cp * sz:=Nat.mul_le_mul_right _ hnc
 have hst:=run_storeCells_at E.P b (i * sz) e' (a.eval y).cells.toList 0 cur w hgc (by simp only[Nat.add_zero];omega) hone
 simp only[Nat.add_zero]at hst
 obtain⟨w',hw'⟩:∃w',w'=w.setRow b (cur.toList.take (i * sz)++(a.eval y).cells.toList++cur.toList.drop (i * sz+(a.eval y).cells.toList.length)).toArray:=⟨_,rfl⟩
 have hgb:w.grownBy w' (some b):=by
  subst hw'
  exact⟨rfl,rfl,rfl,by simp,fun k _ hk=>setRow_other w b k _ (fun e=>hk (by rw[e]))⟩
 obtain⟨p1,p2,p3,p4⟩:=hb.append (n':=rows.length) (v':=.slice (some ⟨b,0,none⟩) rows.length cp) e1 hgb (Nat.le_refl _) (fun _=>rfl) (.inl rfl) (not_dfr g2)
 have hrun:(execOp a.eval ⟨none,.store T x y,ty,pos,after,guard⟩).run E.P w=.ok .skip w':=by
  subst hw'
  have hcs':(a.eval y).cells.size=sz:=by simpa using hcs
  simp[execOp,hp,Instr.storeAt,Instr.sureAddr,storeVar,ht.size,hcs',hst]
 unfold opIn
 rw[if_pos hw]
 refine⟨fun _ _=>trivial,?_⟩
 rw[Oper.semAt_eq _ _ _ (fun cl he=>by cases he),hrun]
 refine hnx _ a w' p1 p2 ?_ ?_
 ·intro p hp
  simp only[List.mem_singleton]at hp
  subst hp
  have hrl:∀q∈rows.set i [u],q.length=sz:=fun q hq=>by
   rcases List.mem_or_eq_of_mem_set hq with h|h
   ·exact g3 q h
   ·rw[h];exact hus
  refine(Holds.mkArr (e:=e') (vs:=vs.take (i * sz)++((a.eval y).cells.toList++vs.drop (i * sz+sz))) hk1 (by rw[List.length_set];exact p3) ?_ hrl ?_).2
  ·rw[List.length_set]
   refine⟨?_,.inr ⟨b,cp,_,rfl,Nat.zero_le _,by rw[hw'];exact setRow_heap w b cur _ e' _ hgc,hnc,hcm,?_,?_⟩⟩
   ·simp only[List.length_append,List.length_take,List.length_drop,hcs,hvl];omega
   ·simp only[List.size_toArray,List.length_append,List.length_take,List.length_drop,Array.length_toList,hcs,hcs2];omega
   ·rw[hcs,←htake]
    simp only[List.append_assoc]
    exact take_store (n:=rows.length * sz) hcs hle (Nat.le_trans hle2 (by simp[hcs2]))
  ·rw[set_flat hus g3 hi]
   exact((g4.take (i * sz)).append (hds.append (g4.drop (i * sz+sz)))).mono fun _ _=>RepD.mono p2.h
 ·intro key u2 hk hu
  have hne:(2000+k:Nat)≠key:=hk (2000+k,.arr sz (rows.set i [u])) (by simp)
  by_cases h1:key<1000
  ·unfold Holds at hu⊢
   rw[if_pos h1]at hu⊢
   exact hu.mono p2
  ·exact p4 key u2 h1 (fun e=>hne e.symm) hu
end
end Go.Ab
namespace Go.Ab
open Go.RowKit
section
variable{E:Env}{all:Array Oper}{s r r1 r2 rd al rg:St}{d ty:Nat}{pos:String}{after:Array Edge}{guard:Option (Nat×Bool)}{x y:Operand}{k:IntKind}{m n:Int}
theorem S.frz{o:Oper}{rd:St}{al:List Nat}{j n sz:Nat}{rows rows':List (List X)}(h:St1 E all o s rd ((d,.own j n)::[(2000+j,.arr sz rows)]) al)(hn:rows.length=n)(hr:rows=rows')(hd:Nat.blt d 1000=true)(hk9:E.fs.contains j=false):
  St1 E all o s rd ((d,.sl rows')::[(2000+j,.any)]) al:=by
 subst hn hr
 refine⟨?_,h.2⟩
 intro U c a w hb hr hal next Q hnx
 refine h.1 U c a w hb hr hal next Q fun c' a' w' hb' hext hwr hfr=>?_
 obtain⟨c2,q1,q2,q3,q4⟩:=hb'.freezeT hd (hwr (d,.own j rows.length) (by simp)) (hwr (2000+j,.arr sz rows) (by simp)) (nfs hk9)
 refine hnx c2 a' w' q1 (hext.trans q2) ?_ ?_
 ·intro p hp
  simp only[List.mem_cons,List.not_mem_nil,or_false]at hp
  rcases hp with rfl|rfl
  ·exact q3
  ·unfold Holds
   rw[if_neg (by omega)]
   exact .inl rfl
 ·intro key u hk hu
  refine q4 key u (hk (2000+j,.any) (by simp)) (hfr key u (fun p hp=>?_) hu)
  simp only[List.mem_cons,List.not_mem_nil,or_false]at hp
  rcases hp with rfl|rfl
  ·exact hk (d,.sl rows) (by simp)
  ·exact hk (2000+j,.any) (by simp)
end
end Go.Ab
namespace Go.Ab
open Go.RowKit
inductive Pl where
 |s (l:List UInt8)
 |i (n:Int)
def Pl.v:Pl→Value
 |.s l=>.string ⟨l.toArray⟩
 |.i n=>.int .i64 n
def Pl.x:Pl→X
 |.s l=>.str l
 |.i n=>.int .i64 n
def Pl.is(P:Program)(T:Nat):Pl→Prop
 |.s _=>P.underlying T=some .string
 |.i _=>P.underlying T=some (.int .i64)
def Pl.same:Pl→Pl→Bool
 |.s _,.s _=>true
 |.i _,.i _=>true
 |_,_=>false
def Pl.eq:Pl→Pl→Bool
 |.s a,.s b=>decide (a=b)
 |.i a,.i b=>decide (a=b)
 |_,_=>false
def plEq:List Pl→List Pl→Bool
 |[],[]=>true
 |a::xs0,b::ys0=>a.eq b&&plEq xs0 ys0
 |_,_=>false
def PlFs(P:Program):Nat→List Field→List Pl→Prop
 |_,[],[]=>True
 | o, f :: fs, p :: ps => (f.name == "_") = false ∧ f.offset = o ∧ p.is P f.type ∧ (∀ w, (isAgg f.type).run P w = .ok false w) ∧ PlFs P (o + 1) fs ps
 |_,_,_=>False
theorem Pl.is_same{P:Program}{T:Nat}:∀{a b:Pl},a.is P T→a.same b=true→b.is P T
 |.s _,.s _,h,_=>h
 |.i _,.i _,h,_=>h
 |.s _,.i _,_,h=>by cases h
 |.i _,.s _,_,h=>by cases h
theorem run_equalIn_pl{P:Program}{T d:Nat}{a b:Pl}(w:World)(ha:a.is P T)(hb:b.is P T):(Op.equalIn (d+1) T a.v b.v).run P w=.ok (a.eq b) w:=by
 cases a with
 |s a=>
  cases b with
  |s b=>
   have:=run_equalIn_string w d T ⟨a.toArray⟩ ⟨b.toArray⟩ ha
   rw[ByteArray.toList_eq,ByteArray.toList_eq]at this
   simp only[Pl.v,Pl.eq]
   rw[this]
   congr 1
   by_cases h:a=b<;>simp[h]
  |i b=>unfold Pl.is at ha hb;rw[ha]at hb;cases hb
 |i a=>
  cases b with
  |s b=>unfold Pl.is at ha hb;rw[ha]at hb;cases hb
  |i b=>
   simp only[Pl.v,Pl.eq]
   rw[run_equalIn_int w d T .i64 .i64 a b ha]
   rfl
theorem eqFields_pl{P:Program}{d:Nat}(w:World):∀(fs:List Field)(xs ys:List Pl)(px py:List Value),PlFs P px.length fs xs→PlFs P px.length fs ys→px.length=py.length→
  (Op.eqFields (d+1) (px++xs.map Pl.v).toArray (py++ys.map Pl.v).toArray fs).run P w=.ok (plEq xs ys) w
 |[],[],[],_,_,_,_,_=>by simp[Op.eqFields,plEq]
 |f::fs,x::xs,y::ys,px,py,hx,hy,hl=>by
  obtain⟨h1,h2,h3,h4,h5⟩:=hx
  obtain⟨_,_,g3,_,g5⟩:=hy
  have part_at:∀(pz:List Value)(z:Pl)(zs:List Pl),pz.length=px.length→(part f.type (pz++(z::zs).map Pl.v).toArray f.offset).run P w=.ok z.v w:=by
   intro pz z zs e
   have hat:(pz++(z::zs).map Pl.v)[f.offset]?=some z.v:=by rw[h2,←e];simp
   rw[List.map_cons]at hat⊢
   have hlt:=(List.getElem?_eq_some_iff.1 hat).1
   have hv:=(List.getElem?_eq_some_iff.1 hat).2
   simp[part,h4,hat]
  have h1' : (f.name != "_") = true := by simp only [bne, h1]; rfl
  simp only[Op.eqFields]
  rw[if_pos (by simpa using h1)]
  simp only[Sem.run_bind,part_at px x xs rfl,part_at py y ys hl.symm,Result.andThen_ok]
  rw[run_equalIn_pl w h3 g3]
  simp only[Result.andThen_ok]
  have ih:=eqFields_pl (d:=d) w fs xs ys (px++[x.v]) (py++[y.v]) (by rw[List.length_append];exact h5) (by rw[List.length_append];exact g5) (by simp[hl])
  rw[List.append_assoc,List.append_assoc,List.singleton_append,List.singleton_append]at ih
  cases he:x.eq y with
  |true=>simpa[plEq,he]using ih
  |false=>simp[plEq,he]
 |[],_::_,_,_,_,h,_,_=>h.elim
 |[],[],_::_,_,_,_,h,_=>h.elim
 |_::_,[],_,_,_,h,_,_=>h.elim
 |_::_,_::_,[],_,_,_,h,_=>h.elim
structure EqP(P:Program)(t:Nat)(ks:List Pl):Prop where
 guard:P.eqGuardType P.depth t=false
 und:P.underlying t=some (.struct (P.fieldsOf t))
 held:P.stoodInHeld t=false
 fs:PlFs P 0 (P.fieldsOf t).toList ks
theorem EqP.of{P:Program}{t:Nat}{ks:List Pl}{fs:Array Field}(hg:P.eqGuardType P.depth t=false)(hu:P.underlying t=some (.struct fs))(hp:P.stoodInHeld t=false)(hf:PlFs P 0 fs.toList ks):EqP P t ks:=by
 have hfo:P.fieldsOf t=fs:=by unfold Program.fieldsOf;rw[hu]
 exact⟨hg,by rw[hfo];exact hu,hp,by rw[hfo];exact hf⟩
theorem PlFs.same{P:Program}:∀{o:Nat}{fs:List Field}{ks xs:List Pl},PlFs P o fs ks→ks.map (fun k=>k.same)=xs.map (fun k=>k.same)→PlFs P o fs xs
 |_,[],[],[],_,_=>trivial
 |_,f::fs,k::ks,x::xs,⟨h1,h2,h3,h4,h5⟩,h=>by
  simp only[List.map_cons,List.cons.injEq]at h
  refine⟨h1,h2,Pl.is_same h3 ?_,h4,PlFs.same h5 h.2⟩
  rw[h.1]
  cases x<;>rfl
 |_,[],[],_::_,_,h=>by simp at h
 |_,_::_,_::_,[],_,h=>by simp at h
 |_,[],_::_,_,h,_=>h.elim
 |_,_::_,[],_,h,_=>h.elim
theorem EqP.run{P:Program}{t:Nat}{ks xs ys:List Pl}(he:EqP P t ks)(hx:ks.map (fun k=>k.same)=xs.map (fun k=>k.same))(hy:ks.map (fun k=>k.same)=ys.map (fun k=>k.same))(w:World):
  (Op.equalIn 10000 t (.agg (xs.map Pl.v).toArray) (.agg (ys.map Pl.v).toArray)).run P w=.ok (plEq xs ys) w:=by
 rw[run_equalIn_struct w 9999 t _ _ he.und he.held]
 exact eqFields_pl (d:=9998) w _ xs ys [] [] (he.fs.same hx) (he.fs.same hy) rfl
end Go.Ab
namespace Go.Ab
open Go.RowKit
def ptrV(b:Nat):Value:=.pointer (some ⟨b,0,none⟩)
def NewBox(B:Nat)(h:Mem)(w:World)(b:Nat)(cells:List X):Prop:=B≤b∧(∀o,h ⟨b,o,none⟩=none)∧∃T vs,w.heap[b]?=some (.cells vs T (0,0))∧All2 (RepD h) cells vs.toList
def CtN(P:Program)(f:Nat)(args:List X)(g:Nat)(bxs:List (List X)):Prop:=
 ∀(h:Mem)(w:World)(vs:List Value),(∀p v,h p=some v→w.cell? p=some v)→All2 (RepV (pureC h)) args vs→
  Calls P f vs.toArray w fun en w'=>∃bs h',en=.returned (.func (.func g) #[] (bs.map ptrV).toArray)∧Below w.heap.size w w'∧Mem.le h h'∧(∀p v,h' p=some v→h p=some v∨w.heap.size≤p.block)∧(∀p v,h' p=some v→w'.cell? p=some v)∧
   bs.Pairwise (· ≠ ·)∧All2 (NewBox w.heap.size h' w') bs bxs
def kbOk(fs:List Nat)(p:Nat×List X):Bool:=p.2.all okD&&Nat.blt p.1 1000&&!fs.contains p.1
def RetN2(E:Env)(t g:Nat)(kb:List (Nat×List X)):Exit→List Nat→St→Prop:=fun e _ s=>(e=.ret∨e=.normal)∧
 look s t=some (.fn g (kb.map fun p=>.ptr p.1 0))∧Nat.blt t 1000=true∧Looks s (boxSt kb)∧kb.all (kbOk E.fs)=true
theorem nboxes_of{fs:List Nat}{c:Ctx}{a:Act}{w:World}:∀{kb:List (Nat×List X)}{vs:List Value},All2 (RepP c) (kb.map fun p=>X.ptr p.1 0) vs→(∀p∈kb,Holds c a w (1000+p.1) (.box p.2))→kb.all (kbOk fs)=true→
  ∃bs:List Nat,vs=bs.map ptrV∧All2 (fun b (p:Nat×List X)=>c.loc p.1=some b∧∃T cs,w.heap[b]?=some (.cells cs T (0,0))∧All2 (RepD c.h) p.2 cs.toList) bs kb
 |[],[],_,_,_=>⟨[],rfl,trivial⟩
 |p::kb,v::vs,h,hb,hk=>by
  obtain⟨h1,h2⟩:=h
  simp only[List.all_cons,Bool.and_eq_true]at hk
  obtain⟨bs,e1,e2⟩:=nboxes_of h2 (fun q hq=>hb q (List.mem_cons_of_mem _ hq)) hk.2
  obtain⟨b,l1,l2⟩:=h1
  have hk1:=hk.1
  simp only[kbOk,Bool.and_eq_true,Nat.blt_eq]at hk1
  obtain⟨b',T,cs,f1,f2,f3⟩:=box_of (hb p List.mem_cons_self) hk1.1.2
  rw[l1]at f1
  cases f1
  exact⟨b::bs,by rw[e1,l2];rfl,⟨l1,T,cs,f2,Ds_of f3 hk1.1.1⟩,e2⟩
 |[],_::_,h,_,_=>h.elim
 |_::_,[],h,_,_=>h.elim
theorem All2.mem_left{α β:Type}{R:α→β→Prop}:∀{xs0:List α}{ys0:List β},All2 R xs0 ys0→∀{a:α},a∈xs0→∃b∈ys0,R a b
 |[],[],_,a,ha=>by cases ha
 |x::xs0,y::ys0,h,a,ha=>by
  rcases List.mem_cons.1 ha with rfl|ha
  ·exact⟨y,List.mem_cons_self,h.1⟩
  ·obtain⟨b,hb,hr⟩:=All2.mem_left h.2 ha
   exact⟨b,List.mem_cons_of_mem _ hb,hr⟩
 |[],_::_,h,_,_=>h.elim
 |_::_,[],h,_,_=>h.elim
theorem CtN.intro{P:Program}{f nt t g:Nat}{fn:Func}{code:Code}{args:List X}{kb:List (Nat×List X)}(hf:P.funcs[f]?=some fn)(hb:fn.body=some code)(hn:fn.ntmps=nt)(hr:fn.results= #[.tmp t])
  (hl:Nat.ble args.length nt=true) (ht:args.all (fun x=>!isTup x)=true) (hl2:Nat.ble args.length 1000=true) (hd:(kb.map (·.1)).Pairwise (· ≠ ·))
  (h:∀w c,OK (mkE P nt [] w c) code (den (mkE P nt [] w c) (RetN2 (mkE P nt [] w c) t g kb) []) [] (argSt 0 args)):CtN P f args g (kb.map (·.2)):=by
 intro h0 w vs hw hargs
 refine(callsIn_wide (n:=0)).1 (callsIn_of_wp_marks hf hb trivial ?_ rfl)
 have hlen:=hargs.length
 rw[Nat.ble_eq]at hl hl2
 have hno:∀b,¬(pureC h0).out [] b:=by
  rintro b (hy|⟨k,_,e⟩|⟨k,m,hv,_,e,_⟩)
  ·exact hy
  ·cases e
  ·cases e
 refine wpIn_mono (h w (pureC h0) {tmps:=vs.toArray++Array.replicate (fn.ntmps - vs.toArray.size) undef,defers:=[]} w ?_) ?_
 ·refine⟨pureC h0,⟨BelX.refl _ _ _,Nat.le_refl _,?_,⟨.nil,fun d hd=>by cases hd⟩,(fun p hp=>by cases hp),hw,Mem.le_refl _,fun p v e=>.inl e,(fun k b e=>by cases e),(fun k m hv b e=>by cases e),(fun _ _=>⟨rfl,rfl⟩),(fun b e=>e.elim),(fun k b _ e=>by cases e),(fun k m hv lv _ e=>by cases e)⟩,fun key x hx=>slots_start hargs ht hl2 key x hx⟩
  simp[hn];omega
 ·rintro e a' w' ⟨U',s',⟨c,hbase,hh⟩,he,l1,l2,l3,l4⟩
  have post:LeavesInM Fence.wide 0 P fn a'.tmps (fun en w'=>∃bs h',en=.returned (.func (.func g) #[] (bs.map ptrV).toArray)∧Below w.heap.size w w'∧Mem.le h0 h'∧(∀p v,h' p=some v→h0 p=some v∨w.heap.size≤p.block)∧(∀p v,h' p=some v→w'.cell? p=some v)∧
    bs.Pairwise (· ≠ ·)∧All2 (NewBox w.heap.size h' w') bs (kb.map (·.2))) a'.defers .returning w':=by
   refine leaves_marks (B:=w.heap.size) (Z:=c.all) a'.defers w' hbase.dfr.1 ?_ ?_
   ·intro d hd
    obtain⟨D,h1,h2,h3,h4⟩:=hbase.dfr.2 d hd
    exact⟨D,h1,h2,h3,h4⟩
   ·intro w2 e1 e2 e3 e4 e5 e6
    obtain⟨hbase,hh⟩:=hbase.calm hh e1 e2 e3 e4 rfl e5 e6
    obtain⟨vs1,hev,hcap⟩:RepT c (.fn g (kb.map fun p=>.ptr p.1 0)) (a'.tmps.getD t undef):=by
     have:=hh t _ l1
     unfold Holds at this
     rw[if_pos (by rwa [Nat.blt_eq]at l2)]at this
     exact this
    obtain⟨bs,rfl,hbs⟩:=nboxes_of (fs:=[]) hcap (fun p hp=>hh _ _ (l3.all (1000+p.1,.box p.2) (List.mem_map.2 ⟨p,hp,rfl⟩))) l4
    have hrun:(results fn a'.tmps).run P w2=.ok (a'.tmps.getD t undef) w2:=by
     have he:results fn a'.tmps=(fn.results.mapM (resSem a'.tmps)>>=fun vs=>pure (if h:vs.size=1 then vs[0]else .tuple vs)):=by
      unfold results
      congr 1
     rw[he,hr,Array.mapM_eq_mapM_toList]
     simp[resSem]
    refine⟨_,hrun,bs,c.h,by rw[hev],(hbase.below.mono (Nat.le_refl _) fun k _ hk=>?_).below,hbase.hle,fun p v hp=>(hbase.hnew p v hp).imp id fun q=>q.elim id fun q=>q.elim (fun q=>(hno _ q).elim) fun⟨_,q,_⟩=>(by cases q),hbase.hw,?_,?_⟩
    ·rcases hk with hk|⟨p,hp,_⟩
     ·exact(hno k hk).elim
     ·cases hp
    ·have:∀{bs:List Nat}{kb:List (Nat×List X)},All2 (fun b (p:Nat×List X)=>c.loc p.1=some b∧∃T cs,w2.heap[b]?=some (.cells cs T (0,0))∧All2 (RepD c.h) p.2 cs.toList) bs kb→(kb.map (·.1)).Pairwise (· ≠ ·)→bs.Pairwise (· ≠ ·):=by
      intro bs
      induction bs with
      |nil=>intro _ _ _;exact List.Pairwise.nil
      |cons b bs ih=>
       intro kb h hd
       cases kb with
       |nil=>exact h.elim
       |cons p kb=>
        rw[List.map_cons,List.pairwise_cons]at hd
        refine List.pairwise_cons.2 ⟨fun b' hb' e=>?_,ih h.2 hd.2⟩
        obtain⟨q,hq,hq2,_⟩:=All2.mem_left h.2 hb'
        subst e
        exact hd.1 q.1 (List.mem_map.2 ⟨q,hq,rfl⟩) ((hbase.loc q.1 b hq2).2.2.2.1 p.1 h.1.1)
     exact this hbs hd
    ·have:∀{bs:List Nat}{kb:List (Nat×List X)},All2 (fun b (p:Nat×List X)=>c.loc p.1=some b∧∃T cs,w2.heap[b]?=some (.cells cs T (0,0))∧All2 (RepD c.h) p.2 cs.toList) bs kb→All2 (NewBox w.heap.size c.h w2) bs (kb.map (·.2)):=by
      intro bs
      induction bs with
      |nil=>intro kb h;cases kb with|nil=>trivial|cons _ _=>exact h.elim
      |cons b bs ih=>
       intro kb h
       cases kb with
       |nil=>exact h.elim
       |cons p kb=>
        obtain⟨⟨f1,T,cs,f2,f3⟩,f4⟩:=h
        obtain⟨q1,_,q3,_⟩:=hbase.loc p.1 b f1
        exact⟨⟨Env.ok_own q1 (by simp),q3,T,cs,f2,f3⟩,ih f4⟩
     exact this hbs
  rcases he with rfl|rfl
  ·exact post
  ·exact post
theorem Base.boxAdd{E:Env}{U:List Nat}{c:Ctx}{a:Act}{w:World}(hb:Base E U c a w){k b0:Nat}(hk9:k∉E.fs)(hk:k∉U)
  (hv:E.B≤b0∧b0<w.heap.size∧(∀o,c.h ⟨b0,o,none⟩=none)∧¬c.all b0∧∃o:Obj,w.heap[b0]?=some o∧o.isCells=true):
  Base E ([k]++U) (c.box k b0) a w∧Ext c (c.box k b0)∧(c.box k b0).loc k=some b0∧∀key y,¬key<1000→Holds c a w key y→Holds (c.box k b0) a w key y:=by
 obtain⟨v1,v2,v3,v4,v5⟩:=hv
 have hn:=(hb.used k hk).1
 have hold:∀j b,c.loc j=some b→(c.box k b0).loc j=some b:=by
  intro j b hj
  simp only[Ctx.box]
  split
  ·rename_i e;subst e;rw[hn]at hj;cases hj
  ·exact hj
 have hext:Ext c (c.box k b0):=⟨Mem.le_refl _,hold,fun _ m hv lv e=>⟨m,hv,lv,e,Nat.le_refl _,fun _=>rfl⟩⟩
 have hnew:∀j b,(c.box k b0).loc j=some b→(j=k∧b=b0)∨(j≠k∧c.loc j=some b):=by
  intro j b hj
  simp only[Ctx.box]at hj
  split at hj
  ·rename_i e;exact .inl ⟨e,(Option.some.inj hj).symm⟩
  ·rename_i e;exact .inr ⟨e,hj⟩
 have hall:∀b,(c.box k b0).all b→c.all b∨b=b0:=by
  intro b h
  rcases h with h|⟨j,h⟩|h
  ·exact .inl (.inl h)
  ·rcases hnew j b h with⟨_,rfl⟩|⟨_,h⟩
   ·exact .inr rfl
   ·exact .inl (.inr (.inl ⟨j,h⟩))
  ·exact .inl (.inr (.inr h))
 have hnc:∀(D:Nat)(o:Obj),w.heap[D]?=some o→o.isCells=false→D≠b0:=by
  rintro D o h1 h2 rfl
  obtain⟨o',h3,h4⟩:=v5
  rw[h1]at h3;cases h3;rw[h2]at h4;cases h4
 have hlo:∀j,j∈E.fs→(c.box k b0).loc j=c.loc j:=fun j hj=>by simp only[Ctx.box];rw[if_neg (show¬j=k from fun e=>hk9 (e▸hj))]
 refine⟨⟨hb.below,hb.hB,hb.nt,⟨hb.dfr.1,fun d hd=>?_⟩,fun p hp=>?_,hb.hw,hb.hle,hb.hnew,?_,?_,?_,?_,fun j b hj e=>hb.loc0 j b hj (hlo j hj▸e),hb.arr0⟩,hext,by simp[Ctx.box],?_⟩
 ·obtain⟨D,h1,h2,h3,h4⟩:=hb.dfr.2 d hd
  exact⟨D,h1,h2,fun e=>(hall D e).elim h3 (hnc D _ h4 rfl),h4⟩
 ·obtain⟨h1,h2,h3⟩:=hb.pin p hp
  exact⟨fun e=>(hall _ e).elim h1 (hnc _ _ h3 h2),h2,h3⟩
 ·intro j b hj
  rcases hnew j b hj with⟨rfl,rfl⟩|⟨hne,hj2⟩
  ·refine⟨.inl v1,v2,v3,fun k' hk'=>?_,fun k' m u hk' e=>v4 (.inr (.inr ⟨k',m,u,hk',e⟩))⟩
   rcases hnew k' _ hk' with⟨rfl,_⟩|⟨_,hk'⟩
   ·rfl
   ·exact absurd (.inr (.inl ⟨k',hk'⟩)) v4
  ·obtain⟨h1,h2,h3,h4,h5⟩:=hb.loc j b hj2
   refine⟨h1,h2,h3,fun k' hk'=>?_,h5⟩
   rcases hnew k' _ hk' with⟨rfl,rfl⟩|⟨_,hk'⟩
   ·exact absurd (.inr (.inl ⟨j,hj2⟩)) v4
   ·exact h4 k' hk'
 ·intro j m u b hj hbk
  obtain⟨h1,h2,h3,h4⟩:=hb.arr j m u b hj hbk
  exact⟨h1,h2,h3,h4⟩
 ·intro j hj
  simp only[List.mem_append,List.mem_singleton,not_or]at hj
  refine⟨?_,(hb.used j hj.2).2⟩
  simp only[Ctx.box]
  rw[if_neg hj.1]
  exact(hb.used j hj.2).1
 ·intro b hy
  obtain⟨h1,h2,h3,h4⟩:=hb.Y b hy
  refine⟨h1,h2,fun j hj=>?_,h4⟩
  rcases hnew j b hj with⟨rfl,rfl⟩|⟨_,hj2⟩
  ·exact v4 (.inl hy)
  ·exact h3 j hj2
 ·intro key y hkey hy
  unfold Holds at hy⊢
  rw[if_neg hkey]at hy⊢
  refine or_snd hy fun hy=>?_
  split at hy
  ·rename_i h2
   rw[if_pos h2]
   obtain⟨b,o,h1,h3,h4⟩:=hy
   exact⟨b,o,hold _ _ h1,h3,h4.mono hext⟩
  ·rename_i h2
   rw[if_neg h2]
   split at hy
   ·rename_i h6
    rw[if_pos h6]
    obtain⟨sz,rows,hv2,e,vs,hx,h1,h3,h4⟩:=hy
    exact⟨sz,rows,hv2,e,vs,hx.mono hext,h1,h3,h4⟩
   ·rename_i h6
    rw[if_neg h6]
    obtain⟨f1,J,f2,f3,f4⟩:=hy
    exact⟨f1,J,f2.mono hold,f3,f4⟩
theorem Base.boxesAdd{E:Env}:∀(ks:List Nat){U:List Nat}{c:Ctx}{a:Act}{w:World}(_:Base E U c a w){bs:List Nat}{bxs:List (List X)},(∀k∈ks,k∉E.fs∧k∉U∧k<1000)→ks.Pairwise (· ≠ ·)→ks.length=bs.length→bs.Pairwise (· ≠ ·)→(∀b∈bs,¬c.all b)→All2 (NewBox E.B c.h w) bs bxs→
  ∃c',Base E (ks.reverse++U) c' a w∧Ext c c'∧c'.h=c.h∧All2 (RepP c') (ks.map fun k=>X.ptr k 0) (bs.map ptrV)∧(∀p∈boxSt (ks.zip bxs),Holds c' a w p.1 p.2)∧∀key y,¬key<1000→Holds c a w key y→Holds c' a w key y
 |[],U,c,a,w,hb,[],[],_,_,_,_,_,_=>⟨c,hb,Ext.refl c,rfl,trivial,(fun p hp=>by cases hp),fun _ _ _ h=>h⟩
 |k::ks,U,c,a,w,hb,b::bs,x::bxs,hks,hkp,hl,hp,hna,hx=>by
  obtain⟨⟨n1,n2,T,vs,n3,n4⟩,hx2⟩:=hx
  obtain⟨hkf,hku,hk1⟩:=hks k List.mem_cons_self
  rw[List.pairwise_cons]at hp hkp
  obtain⟨g1,g2,g3,g4⟩:=hb.boxAdd (k:=k) (b0:=b) hkf hku ⟨n1,(Array.getElem?_eq_some_iff.1 n3).1,n2,hna b List.mem_cons_self,_,n3,rfl⟩
  obtain⟨c',r1,r2,r3,r4,r5,r6⟩:=Base.boxesAdd ks g1 (bs:=bs) (bxs:=bxs) (fun j hj=>⟨(hks j (List.mem_cons_of_mem _ hj)).1,by
   have h1:=(hks j (List.mem_cons_of_mem _ hj)).2.1
   have h2:=hkp.1 j hj
   simp only[List.mem_append,List.mem_singleton,not_or]
   exact⟨fun e=>h2 e.symm,h1⟩,(hks j (List.mem_cons_of_mem _ hj)).2.2⟩) hkp.2 (by simpa using hl) hp.2 (fun b' hb' hall=>by
    have h1:=hna b' (List.mem_cons_of_mem _ hb')
    have h2:=hp.1 b' hb'
    rcases hall with h|⟨j,h⟩|h
    ·exact h1 (.inl h)
    ·simp only[Ctx.box]at h
     split at h
     ·exact h2 (Option.some.inj h)
     ·exact h1 (.inr (.inl ⟨j,h⟩))
    ·exact h1 (.inr (.inr h))) hx2
  have hk0:c'.loc k=some b:=r2.loc k b g3
  refine⟨c',?_,g2.trans r2,r3,⟨⟨b,hk0,rfl⟩,r4⟩,fun p hp2=>?_,fun key y hkey hy=>r6 key y hkey (g4 key y hkey hy)⟩
  ·have e:(k::ks).reverse++U=ks.reverse++([k]++U):=by simp
   rw[e]
   exact r1
  ·simp only[boxSt,List.zip_cons_cons,List.map_cons]at hp2
   rcases List.mem_cons.1 hp2 with rfl|hp2
   ·refine(Holds.mkBox (T:=T) (vs:=vs) hk1 hk0 n3 (n4.mono fun u v h=>?_)).2
    exact RepD.toC (c:=c') (h.mono (by rw[r3];exact Mem.le_refl _))
   ·exact r5 p hp2
 |[],_,_,_,_,_,_::_,_,_,_,hl,_,_,_=>by simp at hl
 |_::_,_,_,_,_,_,[],_,_,_,hl,_,_,_=>by simp at hl
 |_::_,_,_,_,_,_,_::_,[],_,_,_,_,_,hx=>hx.elim
 |[],_,_,_,_,_,[],_::_,_,_,_,_,_,hx=>hx.elim
section
variable{E:Env}{all:Array Oper}{s r r1 r2 r3 rg:St}{d ty:Nat}{pos:String}{after:Array Edge}{guard:Option (Nat×Bool)}{x y z:Operand}
theorem S.callN{f g:Nat}{os:List Operand}{at_:Array TypeId}{ys:List X}{bxs:List (List X)}(ks:List Nat)(hf:CtN E.P f ys g bxs)(hcall:∀args w,(callFunc f args).run E.P w=.ok (.enter f args) w)(hg:Gd all s guard rg)(hd:(Nat.blt d 1000&&Nat.blt d E.nt)=true)
  (ha:OpsS s os ys r) (ho:ys.all okArg=true) (hlk:ks.length=bxs.length:=by rfl) (hk9:ks.all (fun k=>!E.fs.contains k&&Nat.blt k 1000)=true:=by rfl) (hkd:ks.Pairwise (· ≠ ·):=by decide):
  St1 E all ⟨some d,.call {callee:=.value (.func f),args:=os.toArray,argTypes:=at_},ty,pos,after,guard⟩ s (rg++r) ((d,.fn g (ks.map fun k=>.ptr k 0))::boxSt (ks.zip bxs)) ks.reverse:=by
 simp only[Bool.and_eq_true,Nat.blt_eq]at hd
 refine⟨?_,hg.looks.app ha.looks⟩
 intro U c a w hb hr hal next Q hnx
 have hw:=hg.wanted (o:=⟨some d,.call {callee:=.value (.func f),args:=os.toArray,argTypes:=at_},ty,pos,after,guard⟩) (fun p hp=>hr p (List.mem_append_left _ hp))
 have hargs:=args_clean (ha.rep (c:=c) (a:=a) (w:=w) fun p hp=>hr p (List.mem_append_right _ hp)) ho
 unfold opIn
 rw[if_pos hw]
 refine⟨fun _ _=>trivial,?_⟩
 rw[Oper.semAt_eq _ _ _ fun cl he=>by cases he]
 have hfo:a.eval (.func f)=.func (.func f) #[] #[]:=rfl
 have hrun:(execOp a.eval ⟨some d,.call {callee:=.value (.func f),args:=os.toArray,argTypes:=at_},ty,pos,after,guard⟩).run E.P w=.ok (.enter f (os.map a.eval).toArray) w:=by
  simp[execOp,resolve,hfo,Deferred.ofValue,invoke,hcall]
 rw[hrun]
 refine⟨(fun h=>by cases h),?_⟩
 have h1:CallsIn E.F (0 - 1) E.P f (os.map a.eval).toArray w _:=(callsIn_wide (n:=0)).2 (hf c.h w _ hb.hw hargs)
 refine h1.mono ?_
 rintro en w' ⟨bs,h',rfl,hB,hle,hnew,hw',hbp,hbx⟩
 have hb1:=hb.below_grow hB hle hnew hw'
 have hext1:Ext c ⟨h',c.loc,c.arr,c.Y⟩:=⟨hle,fun _ _ e=>e,fun _ m hv lv e=>⟨m,hv,lv,e,Nat.le_refl _,fun _=>rfl⟩⟩
 have hkf:∀k∈ks,k∉E.fs∧k<1000:=fun k hk=>by
  have:=List.all_eq_true.1 hk9 k hk
  simp only[Bool.and_eq_true,Bool.not_eq_true',Nat.blt_eq]at this
  exact⟨nfs this.1,this.2⟩
 obtain⟨c',r1,r2,r3,r4,r5,r6⟩:=Base.boxesAdd ks hb1 (bs:=bs) (bxs:=bxs) (fun k hk=>⟨(hkf k hk).1,hal k (by simpa using hk),(hkf k hk).2⟩) hkd (by rw[hlk,hbx.length]) hbp (fun b hb' hall=>by
  obtain⟨q,_,f1,_,_⟩:=All2.mem_left hbx hb'
  rcases hall with hy|⟨j,hj⟩|⟨j,m,hv,hj,hjb⟩
  ·have:=(hb.Y b hy).1;omega
  ·have:=(hb.loc j b hj).2.1;omega
  ·have:=(hb.arr j m hv b hj hjb).2.1;omega) (hbx.mono fun b cells h=>⟨Nat.le_trans hb.hB h.1,h.2⟩)
 have hdt:d<a.tmps.size:=by rw[hb.nt];exact hd.2
 refine hnx c' _ w' (r1.put _ _) (hext1.trans r2) ?_ ?_
 ·intro p hp
  rcases List.mem_cons.1 hp with rfl|hp
  ·unfold Holds
   rw[if_pos hd.1,getD_put hdt]
   exact⟨bs.map ptrV,rfl,r4⟩
  ·have h5:=r5 p hp
   obtain⟨q,_,rfl⟩:=List.mem_map.1 hp
   exact h5.put (by show d≠1000+q.1;omega) _
 ·intro key u hk hu
  have hne:d≠key:=hk (d,.fn g (ks.map fun k=>.ptr k 0)) (by simp)
  by_cases h1:key<1000
  ·refine Holds.put ?_ hne _
   unfold Holds at hu⊢
   rw[if_pos h1]at hu⊢
   exact hu.mono (hext1.trans r2)
  ·exact(r6 key u h1 (Holds.below hb hB hext1 (fun _ _ _ e=>e) rfl hnew hw' h1 hu)).put hne _
end
end Go.Ab
