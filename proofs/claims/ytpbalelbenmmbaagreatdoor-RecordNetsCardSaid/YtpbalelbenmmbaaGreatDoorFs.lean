import Derived.Carry
import Derived.ProofKit
import Derived.Test.YtpbalelbenmmbaaGreatDoorFq
namespace Go.Ab
open Go.RowKit Go.ChangeShapes Go.WideShapes Go.ChangeAt
inductive Ty where
 |int (k:IntKind)
 |bool
 |str
 |sl (e:Ty)
 |st (c:Ty)
 |nil
 |cons (f r:Ty)
def Ty.cells:Ty→Nat
 |.int _|.bool|.str|.sl _=>1
 |.st c=>c.cells
 |.nil=>0
 |.cons f r=>f.cells+r.cells
def Ty.is(P:Program):Ty→(TypeId ⊕ (List Field×Nat))→Prop
 |.int k,.inl t=>P.underlying t=some (.int k)
 |.bool,.inl t=>P.underlying t=some .bool
 |.str,.inl t=>P.underlying t=some .string
 |.sl e,.inl t=>∃et,P.underlying t=some (.slice et)∧P.cellsOf et=e.cells∧0<e.cells∧Ty.is P e (.inl et)
 |.st c,.inl t=>∃fs,P.underlying t=some (.struct fs)∧P.cellsOf t=c.cells∧Ty.is P c (.inr (fs.toList,0))
 |.nil,.inr (fs,_)=>fs=[]
 |.cons f r,.inr (fd::fs,off)=>fd.offset=off∧P.cellsOf fd.type=f.cells∧Ty.is P f (.inl fd.type)∧Ty.is P r (.inr (fs,off+f.cells))
 |_,_=>False
def Shape:Ty→List X→Prop
 |.int k,xs=>∃n,xs=[.int k n]
 |.bool,xs=>∃b,xs=[.bool b]
 |.str,xs=>∃s,xs=[.str s]
 |.sl e,xs=>∃rows,xs=[.sl rows]∧∀r∈rows,Shape e r
 |.st c,xs=>Shape c xs
 |.nil,xs=>xs=[]
 |.cons f r,xs=>∃a b,xs=a++b∧Shape f a∧Shape r b
theorem mapM_some{α β:Type}{f:α→Option β}:∀{l:List α}{out:List β},l.mapM f=some out→out.length=l.length∧∀(i:Nat)(a:α),l[i]?=some a→∃b,out[i]?=some b∧f a=some b
 |[],out,h=>by simp at h;subst h;simp
 |a::l,out,h=>by
  rw[List.mapM_cons]at h
  cases hf:f a with
  |none=>simp[hf]at h
  |some b=>
   cases hl:l.mapM f with
   |none=>simp[hf,hl]at h
   |some bs=>
    simp[hf,hl]at h
    subst h
    obtain⟨h1,h2⟩:=mapM_some hl
    refine⟨by simp[h1],fun i x hi=>?_⟩
    cases i with
    |zero=>simp at hi;subst hi;exact⟨b,by simp,hf⟩
    |succ i=>simpa using h2 i x (by simpa using hi)
theorem All2.flat{α β:Type}{R:α→β→Prop}:∀{rows:List (List α)}{vss:List (List β)},All2 (All2 R) rows vss→All2 R rows.flatten vss.flatten
 |[],[],_=>trivial
 |_::_,_::_,h=>h.1.append (All2.flat h.2)
 |[],_::_,h=>h.elim
 |_::_,[],h=>h.elim
theorem All2.build{α β:Type}{R:α→β→Prop}{S:α→Prop}:∀(bs:List β),(∀b∈bs,∃a,R a b∧S a)→∃as:List α,All2 R as bs∧∀a∈as,S a
 |[],_=>⟨[],trivial,fun a h=>by cases h⟩
 |b::bs,h=>by
  obtain⟨a,h1,h2⟩:=h b List.mem_cons_self
  obtain⟨as,h3,h4⟩:=All2.build bs fun b hb=>h b (List.mem_cons_of_mem _ hb)
  exact⟨a::as,⟨h1,h3⟩,fun x hx=>by rcases List.mem_cons.1 hx with rfl|hx;exact h2;exact h4 x hx⟩
section
variable{H:Type}{enc:TypeId×Value→H}{P:Program}{w:World}{spare:Nat→Bool}
theorem cells_some{a:Addr}{n:Nat}{vs:List Value}(h:w.cells? 0 a n=some vs):vs.length=n∧∀(i:Nat)(v:Value),vs[i]?=some v→w.cell? (a.add i)=some v:=by
 unfold World.cells? at h
 rw[if_pos (Nat.zero_le _)]at h
 obtain⟨h1,h2⟩:=mapM_some h
 simp only[List.length_range]at h1
 refine⟨h1,fun i v hv=>?_⟩
 have hi:i<n:=by rw[←h1];exact(List.getElem?_eq_some_iff.1 hv).1
 obtain⟨b,h3,h4⟩:=h2 i i (by rw[List.getElem?_range hi])
 rw[hv]at h3
 cases h3
 exact h4
theorem wrap_min{k:IntKind}{n:Int}(h:(Lit.int k n).wf=true):k.wrap n=n:=by
 simp only[Lit.wf,Bool.and_eq_true,decide_eq_true_eq]at h
 cases k
 ·exact IntWalk.i8_in n h
 ·exact IntWalk.i16_in n h
 ·exact IntWalk.i32_in n h
 ·exact IntWalk.i64_in n h
 ·exact IntWalk.u8_in n h
 ·exact IntWalk.u16_in n h
 ·exact IntWalk.u32_in n h
 ·exact IntWalk.u64_in n h
theorem trod_int{fuel:Nat}{t:TypeId}{k:IntKind}{cs:List Value}{x:DataW H×List MemPlace}(ht:P.underlying t=some (.int k))(h:DataW.trod enc P w 0 spare true fuel t cs=some x):∃n,cs=[.int k n]∧k.wrap n=n:=by
 cases fuel with
 |zero=>cases h
 |succ fuel=>
  match cs,h with
  |[],h=>simp[DataW.trod,ht]at h
  |[v],h=>
   cases v<;>simp[DataW.trod,ht]at h
   rename_i k' n
   obtain⟨⟨rfl,h1⟩,_⟩:=h
   exact⟨n,rfl,wrap_min h1⟩
  |_::_::_,h=>simp[DataW.trod,ht]at h
theorem trod_bool{fuel:Nat}{t:TypeId}{cs:List Value}{x:DataW H×List MemPlace}(ht:P.underlying t=some .bool)(h:DataW.trod enc P w 0 spare true fuel t cs=some x):∃b,cs=[.bool b]:=by
 cases fuel with
 |zero=>cases h
 |succ fuel=>
  match cs,h with
  |[],h=>simp[DataW.trod,ht]at h
  |[v],h=>
   cases v<;>simp[DataW.trod,ht]at h
   exact⟨_,rfl⟩
  |_::_::_,h=>simp[DataW.trod,ht]at h
theorem trod_str{fuel:Nat}{t:TypeId}{cs:List Value}{x:DataW H×List MemPlace}(ht:P.underlying t=some .string)(h:DataW.trod enc P w 0 spare true fuel t cs=some x):∃s:ByteArray,cs=[.string s]∧s.size≤maxLen:=by
 cases fuel with
 |zero=>cases h
 |succ fuel=>
  match cs,h with
  |[],h=>simp[DataW.trod,ht]at h
  |[v],h=>
   cases v<;>simp[DataW.trod,ht]at h
   exact⟨_,rfl,h.1⟩
  |_::_::_,h=>simp[DataW.trod,ht]at h
theorem trod_sl{fuel:Nat}{t e:TypeId}{cs:List Value}{x:DataW H×List MemPlace}(ht:P.underlying t=some (.slice e))(h:DataW.trod enc P w 0 spare true fuel t cs=some x):
  cs=[.slice none 0 0]∨∃(a:Addr)(len cap:Nat)(n:Nat),cs=[.slice (some a) len cap]∧len≤cap∧cap≤maxLen∧∀i,i<len→∃vs y,w.cells? 0 (a.add (i * P.cellsOf e)) (P.cellsOf e)=some vs∧DataW.trod enc P w 0 spare true n e vs=some y:=by
 cases fuel with
 |zero=>cases h
 |succ fuel=>
  match cs,h with
  |[],h=>simp[DataW.trod,ht]at h
  |[v],h=>
   cases v<;>simp only[DataW.trod,ht]at h<;>try (cases h;done)
   rename_i a len cap
   cases a with
   |none=>
    cases len with
    |zero=>cases cap with
     |zero=>exact .inl rfl
     |succ cap=>simp at h
    |succ len=>simp at h
   |some a=>
    right
    simp only at h
    split at h
    ·rename_i hc
     refine⟨a,len,cap,fuel,rfl,hc.2.1,hc.2.2,fun i hi=>?_⟩
     rw[Option.bind_eq_some_iff]at h
     obtain⟨elems,h1,_⟩:=h
     obtain⟨_,h2⟩:=mapM_some h1
     obtain⟨b,_,h3⟩:=h2 i i (by rw[List.getElem?_range hi])
     rw[Option.bind_eq_some_iff]at h3
     obtain⟨vs,h4,h5⟩:=h3
     exact⟨vs,b,h4,h5⟩
    ·cases h
  |_::_::_,h=>simp[DataW.trod,ht]at h
theorem trod_st{fuel:Nat}{t:TypeId}{fs:Array Field}{cs:List Value}{x:DataW H×List MemPlace}(ht:P.underlying t=some (.struct fs))(h:DataW.trod enc P w 0 spare true fuel t cs=some x):
  cs.length=P.cellsOf t∧∃n out,(fs.toList.mapM fun f=>DataW.trod enc P w 0 spare true n f.type ((cs.drop f.offset).take (P.cellsOf f.type)))=some out:=by
 cases fuel with
 |zero=>cases h
 |succ fuel=>
  simp only[DataW.trod,ht]at h
  split at h
  ·rename_i hc
   rw[Option.map_eq_some_iff]at h
   obtain⟨out,h1,_⟩:=h
   exact⟨hc,fuel,out,h1⟩
  ·cases h
theorem trod_rep:∀(T:Ty),(∀(fuel:Nat)(t:TypeId)(cs:List Value)(x:DataW H×List MemPlace),Ty.is P T (.inl t)→DataW.trod enc P w 0 spare true fuel t cs=some x→∃xs,All2 (RepD (lendM w)) xs cs∧Shape T xs)∧
  (∀(fuel:Nat)(fs:List Field)(off:Nat)(cs:List Value)(out:List (DataW H×List MemPlace)),Ty.is P T (.inr (fs,off))→(fs.mapM fun f=>DataW.trod enc P w 0 spare true fuel f.type ((cs.drop f.offset).take (P.cellsOf f.type)))=some out→cs.length=off+T.cells→
   ∃xs,All2 (RepD (lendM w)) xs (cs.drop off)∧Shape T xs):=by
 intro T
 induction T with
 |int k=>
  refine⟨fun fuel t cs x ht h=>?_,fun fuel fs off cs out ht=>ht.elim⟩
  obtain⟨n,rfl,hn⟩:=trod_int ht h
  exact⟨[.int k n],⟨.int hn,trivial⟩,n,rfl⟩
 |bool=>
  refine⟨fun fuel t cs x ht h=>?_,fun fuel fs off cs out ht=>ht.elim⟩
  obtain⟨b,rfl⟩:=trod_bool ht h
  exact⟨[.bool b],⟨.bool b,trivial⟩,b,rfl⟩
 |str=>
  refine⟨fun fuel t cs x ht h=>?_,fun fuel fs off cs out ht=>ht.elim⟩
  obtain⟨s,rfl,hs⟩:=trod_str ht h
  exact⟨[.str s.data.toList],⟨RepD.str (h:=lendM w) s.data.toList (by simpa using hs),trivial⟩,_,rfl⟩
 |sl e ih=>
  refine⟨fun fuel t cs x ht h=>?_,fun fuel fs off cs out ht=>ht.elim⟩
  obtain⟨et,ht1,ht2,ht3,ht4⟩:=ht
  rcases trod_sl ht1 h with rfl|⟨a,len,cap,n,rfl,hle,hcap,hel⟩
  ·exact⟨[.sl []],⟨.sl0 none 0 (Nat.zero_le _),trivial⟩,[],rfl,fun r hr=>by cases hr⟩
  ·by_cases h0:len=0
   ·subst h0
    exact⟨[.sl []],⟨.sl0 (some a) cap hcap,trivial⟩,[],rfl,fun r hr=>by cases hr⟩
   ·rw[ht2]at hel
    have hvss:∃vss:List (List Value),vss.length=len∧∀i vs,vss[i]?=some vs→w.cells? 0 (a.add (i * e.cells)) e.cells=some vs∧∃y,DataW.trod enc P w 0 spare true n et vs=some y:=by
     refine⟨(List.range len).map fun i=>(w.cells? 0 (a.add (i * e.cells)) e.cells).getD [],by simp,fun i vs hi=>?_⟩
     rw[List.getElem?_map]at hi
     cases hr:(List.range len)[i]? with
     |none=>rw[hr]at hi;cases hi
     |some j=>
      have hij:j=i∧i<len:=by
       have:=List.getElem?_eq_some_iff.1 hr
       obtain⟨h1,h2⟩:=this
       simp at h1 h2
       exact⟨h2.symm,h1⟩
      obtain⟨rfl,hlt⟩:=hij
      rw[hr]at hi
      obtain⟨vs',y,h1,h2⟩:=hel j hlt
      simp only[Option.map_some,h1,Option.getD_some,Option.some.injEq]at hi
      subst hi
      exact⟨h1,y,h2⟩
    obtain⟨vss,hl,hv⟩:=hvss
    have hrows:∃rows:List (List X),All2 (All2 (RepD (lendM w))) rows vss∧∀r∈rows,Shape e r:=by
     refine All2.build vss fun vs hvs=>?_
     obtain⟨i,hi⟩:=List.getElem?_of_mem hvs
     obtain⟨_,y,hy⟩:=hv i vs hi
     exact ih.1 n et vs y ht4 hy
    obtain⟨rows,hr1,hr2⟩:=hrows
    have hcl:∀vs∈vss,vs.length=e.cells:=fun vs hvs=>by
     obtain⟨i,hi⟩:=List.getElem?_of_mem hvs
     exact(cells_some (hv i vs hi).1).1
    have hrl:∀r∈rows,r.length=e.cells:=fun r hr=>by
     obtain⟨i,hi⟩:=List.getElem?_of_mem hr
     obtain⟨vs,h1,h2⟩:=hr1.get_right hi
     rw[h2.length]
     exact hcl vs (List.mem_of_getElem? h1)
    have hrn:rows.length=len:=by rw[hr1.length,hl]
    have hspot:a.spot=none:=by
     obtain⟨vs,y,h1,_⟩:=hel 0 (by omega)
     obtain⟨h2,h3⟩:=cells_some h1
     have h4:0<vs.length:=by omega
     have h5:=h3 0 _ (List.getElem?_eq_getElem h4)
     have h6:=spot_none h5
     have:((a.add (0 * e.cells)).add 0).spot=none:=by rw[h6]
     simpa[Addr.add]using this
    have ha:a=⟨a.block,a.off,none⟩:=by cases a;simp at hspot;subst hspot;rfl
    refine⟨[.sl rows],⟨?_,trivial⟩,rows,rfl,hr2⟩
    rw[ha,←hrn]
    have hfl:=flatten_length hrl
    refine .sl rows a.block a.off cap e.cells vss.flatten (by omega) hcap hrl (hr1.flat).length ?_ fun i x v hx hv'=>(hr1.flat).get hx hv'
    intro i v hi
    have hil:i<len * e.cells:=by
     have:=(List.getElem?_eq_some_iff.1 hi).1
     rw[←(hr1.flat).length,hfl,hrn]at this
     exact this
    have hdiv:i / e.cells<len:=by rw[Nat.div_lt_iff_lt_mul ht3];exact hil
    have hvs:vss[i / e.cells]?=some vss[i / e.cells]:=List.getElem?_eq_getElem (by omega)
    obtain⟨h1,_⟩:=hv _ _ hvs
    obtain⟨h2,h3⟩:=cells_some h1
    have hfa:=flatten_at (sz:=e.cells) (i / e.cells) hcl hvs
    have hmod:i % e.cells<e.cells:=Nat.mod_lt _ ht3
    have hget:vss[i / e.cells][i % e.cells]?=some v:=by
     rw[←hfa,List.getElem?_take,if_pos hmod,List.getElem?_drop,Nat.div_add_mod' i e.cells]
     exact hi
    have h4:=h3 _ _ hget
    rw[ha]at h4
    show w.cell? _=_
    rw[←h4,add_off,add_off]
    have:=Nat.div_add_mod' i e.cells
    have h9:a.off+i=a.off+i / e.cells * e.cells+i % e.cells:=by omega
    rw[h9]
 |st c ih=>
  refine⟨fun fuel t cs x ht h=>?_,fun fuel fs off cs out ht=>ht.elim⟩
  obtain⟨fs,h1,h2,h3⟩:=ht
  obtain⟨h4,n,out,h5⟩:=trod_st h1 h
  obtain⟨xs,h6,h7⟩:=ih.2 n fs.toList 0 cs out h3 h5 (by omega)
  exact⟨xs,by simpa using h6,h7⟩
 |nil=>
  refine⟨fun fuel t cs x ht=>ht.elim,fun fuel fs off cs out ht h hl=>?_⟩
  refine⟨[],?_,rfl⟩
  have:cs.drop off=[]:=List.drop_eq_nil_of_le (by simp only[Ty.cells]at hl;omega)
  rw[this]
  trivial
 |cons f r ihf ihr=>
  refine⟨fun fuel t cs x ht=>ht.elim,fun fuel fs off cs out ht h hl=>?_⟩
  cases fs with
  |nil=>exact ht.elim
  |cons fd fs=>
   obtain⟨h1,h2,h3,h4⟩:=ht
   subst h1
   rw[List.mapM_cons]at h
   cases hf:DataW.trod enc P w 0 spare true fuel fd.type ((cs.drop fd.offset).take (P.cellsOf fd.type))with
   |none=>simp[hf]at h
   |some y=>
    cases hm:fs.mapM (fun f=>DataW.trod enc P w 0 spare true fuel f.type ((cs.drop f.offset).take (P.cellsOf f.type)))with
    |none=>simp[hf,hm]at h
    |some ys=>
     obtain⟨xa,a1,a2⟩:=ihf.1 fuel fd.type _ y h3 hf
     obtain⟨xb,b1,b2⟩:=ihr.2 fuel fs (fd.offset+f.cells) cs ys h4 hm (by simp only[Ty.cells]at hl;omega)
     refine⟨xa++xb,?_,xa,xb,rfl,a2,b2⟩
     have:=a1.append b1
     rwa [h2,←List.drop_drop,List.take_append_drop]at this
def ArgIs(T:Ty)(x:X):Prop:=match T with
 |.st c=>∃xs,x=.agg xs∧Shape c xs
 |T=>Shape T [x]
def Ty.top:Ty→Bool
 |.int _|.bool|.str|.sl _|.st _=>true
 |_=>false
theorem single{T:Ty}(hT:T.top=true){t:TypeId}{v:Value}{base:Nat}(ht:Ty.is P T (.inl t))(hst:∀c,T≠.st c)(hok:Value.okWide P w .any base t v):v.cells.toList=[v]:=by
 cases v<;>try rfl
 rename_i cs
 exfalso
 cases T with
 |int k=>have ht:P.underlying t=some (.int k):=ht;simp[Value.okWide,ht,Cell.okWide,Cell.ok]at hok
 |bool=>have ht:P.underlying t=some .bool:=ht;simp[Value.okWide,ht,Cell.okWide,Cell.ok]at hok
 |str=>have ht:P.underlying t=some .string:=ht;simp[Value.okWide,ht,Cell.okWide,Cell.ok]at hok
 |sl e=>obtain⟨et,ht,_⟩:=ht;simp[Value.okWide,ht,Cell.okWide,Cell.ok]at hok
 |st c=>exact hst c rfl
 |nil=>cases hT
 |cons f r=>cases hT
theorem D_toV{c:Ctx}{x:X}{v:Value}(h:RepD c.h x v):RepV c x v:=by
 cases h with
 |int e=>exact .int e
 |bool b=>exact .bool b
 |str s e=>exact .str s e
 |sl0 a cap e=>exact .sl0 a cap e
 |sl rows b off cap sz vs h1 h2 h3 h4 h5 h6=>exact .sl rows b off cap sz vs h1 h2 h3 h4 h5 h6
 |eptr cells b off vs h1 h2 h3=>exact .eptr cells b off vs h1 h2 h3
 |raw u e=>exact rfl
theorem arg_rep{T:Ty}{t:TypeId}{v:Value}{d:DataW H}{ps:List MemPlace}{base:Nat}(hT:T.top=true)(ht:Ty.is P T (.inl t))(hok:Value.okWide P w .any base t v)(h:DataW.Trod enc P w 0 spare true t v d ps):
  ∃x,RepV (pureC (lendM w)) x v∧ArgIs T x:=by
 obtain⟨fuel,h⟩:=h
 obtain⟨xs,h1,h2⟩:=(trod_rep T).1 fuel t _ _ ht h
 by_cases hst:∃c,T=.st c
 ·obtain⟨c,rfl⟩:=hst
  obtain⟨fs,g1,g2,g3⟩:=ht
  unfold Value.okWide at hok
  rw[g1]at hok
  obtain⟨cs,rfl,_⟩:=hok
  refine⟨.agg xs,⟨cs.toList,by simp,h1.mono fun x v h=>RepD.toC (c:=pureC (lendM w)) h⟩,xs,rfl,h2⟩
 ·have hst':∀c,T≠.st c:=fun c e=>hst ⟨c,e⟩
  rw[single hT ht hst' hok]at h1
  match xs,h1,h2 with
  |[x],h1,h2=>
   refine⟨x,D_toV (c:=pureC (lendM w)) h1.1,?_⟩
   unfold ArgIs
   cases T<;>first|exact h2|exact absurd rfl (hst' _)
  |[],h1,_=>exact h1.elim
  |_::_::_,h1,_=>exact h1.2.elim
def ArgsIs:List Ty→List X→Prop
 |[],[]=>True
 |T::Ts,x::xs=>ArgIs T x∧ArgsIs Ts xs
 |_,_=>False
def TysAre(P:Program):List Ty→List TypeId→Prop
 |[],[]=>True
 |T::Ts,t::ts=>T.top=true∧Ty.is P T (.inl t)∧P.readableRec t=true∧t<P.types.size∧TysAre P Ts ts
 |_,_=>False
theorem args_rep{base:Nat}:∀{Ts:List Ty}{ts:List TypeId}{vs:List Value}{ds:List (DataW H)}{ps:List MemPlace},TysAre P Ts ts→(∀(j:Nat)(t:TypeId)(v:Value),ts[j]?=some t→vs[j]?=some v→Value.okWide P w .any base t v)→
  DataW.TrodAll enc P w 0 spare true ts vs ds ps→∃xs,All2 (RepV (pureC (lendM w))) xs vs∧ArgsIs Ts xs
 |[],[],vs,ds,ps,_,_,h=>by
  cases vs with
  |nil=>exact⟨[],trivial,trivial⟩
  |cons v vs=>cases ds<;>exact h.elim
 |T::Ts,t::ts,vs,ds,ps,hT,hok,h=>by
  cases vs with
  |nil=>cases ds<;>exact h.elim
  |cons v vs=>
   cases ds with
   |nil=>exact h.elim
   |cons d ds=>
    obtain⟨p,q,h1,h2,_⟩:=h
    obtain⟨a1,a2,_,_,a3⟩:=hT
    obtain⟨x,b1,b2⟩:=arg_rep a1 a2 (hok 0 t v rfl rfl) h1
    obtain⟨xs,c1,c2⟩:=args_rep a3 (fun j t v ht hv=>hok (j+1) t v (by simpa using ht) (by simpa using hv)) h2
    exact⟨x::xs,⟨b1,c1⟩,b2,c2⟩
 |[],_::_,_,_,_,h,_,_=>h.elim
 |_::_,[],_,_,_,h,_,_=>h.elim
theorem args_stay{w':World}(hl:laidOutB P=true)(hb:Below w.heap.size w w'):∀{Ts:List Ty}{ts:List TypeId}{vs:List Value}{ds:List (DataW H)}{ps:List MemPlace},TysAre P Ts ts→(∀x∈ps,x.block<w.heap.size)→DataW.TrodAll enc P w 0 (fun _=>true) true ts vs ds ps→
  DataW.TrodAll enc P w' 0 (fun b=>decide (b<w.heap.size)) true ts vs ds ps
 |[],[],vs,ds,ps,_,_,h=>by
  cases vs with
  |nil=>cases ds with
   |nil=>exact h
   |cons d ds=>exact h.elim
  |cons v vs=>cases ds<;>exact h.elim
 |T::Ts,t::ts,vs,ds,ps,hT,hlt,h=>by
  cases vs with
  |nil=>cases ds<;>exact h.elim
  |cons v vs=>
   cases ds with
   |nil=>exact h.elim
   |cons d ds=>
    obtain⟨p,q,h1,h2,rfl⟩:=h
    obtain⟨_,_,a1,a2,a3⟩:=hT
    exact⟨p,q,Below.trod hl a1 a2 h1 hb fun x hx=>hlt x (List.mem_append_left _ hx),args_stay hl hb a3 (fun x hx=>hlt x (List.mem_append_right _ hx)) h2,rfl⟩
 |[],_::_,_,_,_,h,_,_=>h.elim
 |_::_,[],_,_,_,h,_,_=>h.elim
theorem trodAll_len:∀{ts:List TypeId}{vs:List Value}{ds:List (DataW H)}{ps:List MemPlace},DataW.TrodAll enc P w 0 spare true ts vs ds ps→ds.length=ts.length
 |[],vs,ds,ps,h=>by cases vs<;>cases ds<;>first|rfl|exact h.elim
 |t::ts,vs,ds,ps,h=>by
  cases vs with
  |nil=>cases ds<;>exact h.elim
  |cons v vs=>
   cases ds with
   |nil=>exact h.elim
   |cons d ds=>obtain⟨_,_,_,h2,_⟩:=h;simp[trodAll_len h2]
theorem rows_of{α:Type}{f:α→List X}:∀{rows:List (List X)},(∀r∈rows,∃x,r=f x)→∃l:List α,rows=l.map f
 |[],_=>⟨[],rfl⟩
 |r::rows,h=>by
  obtain⟨x,rfl⟩:=h r List.mem_cons_self
  obtain⟨l,rfl⟩:=rows_of fun r hr=>h r (List.mem_cons_of_mem _ hr)
  exact⟨x::l,rfl⟩
end
end Go.Ab
namespace Go.Ab
open Go.RowKit
theorem OK.skipQ{E:Env}{U:List Nat}{s:St}{Q:Exit→List Nat→St→Prop}(h:Q .normal U s):OK E .skip Q U s:=fun _ _ hg=>wpIn_skip ⟨U,s,hg,h⟩
end Go.Ab
