import Derived.Test.YtpbalelbenmmbaaGreatDoorHz
import Derived.Test.YtpbalelbenmmbaaGreatDoorGh
import Derived.Test.YtpbalelbenmmbaaGreatDoorHj
import Derived.Test.YtpbalelbenmmbaaGreatDoorLa
import Derived.Test.YtpbalelbenmmbaaGreatDoorRa
import Derived.Test.YtpbalelbenmmbaaGreatDoorRc
import Derived.Test.YtpbalelbenmmbaaGreatDoorTy
import Derived.Test.YtpbalelbenmmbaaGreatDoorYa
namespace Go.Proofs.YtpbalelbenmmbaaGreatDoor
open Go.Ab
def House.addE(H:House)(i:Nat):House:={H with parts:=H.parts.modify i fun q=>(q.1,q.2++[H.entries])}
def House.setP(H:House)(i:Nat)(f:Part→Part):House:={H with parts:=H.parts.modify i fun q=>(f q.1,q.2)}
def House.p(H:House)(i:Nat):Part:=(H.parts[i]?.map (·.1)).getD ⟨0,[],0,[],[],0,false,0,false,Span.zero⟩
section
variable{A:HA}{m:Int}{i j:Nat}
theorem HA.atH(A:HA):A.mem .house=some (A.b,.box A.cs):=rfl
theorem HA.atP?{v:PartA}(h:A.parts[i]?=some v):A.mem (.p i)=some (v.b,.box v.cs):=by show(A.parts[i]?.map _)=_;rw[h];rfl
theorem HA.atC?{v:CoilA}(h:A.coils[i]?=some v):A.mem (.c i)=some (v.b,.box v.cs):=by show(A.coils[i]?.map _)=_;rw[h];rfl
theorem HA.atV?{v:VerA}(h:A.vers[i]?=some v):A.mem (.v i)=some (v.b,.box v.cs):=by show(A.vers[i]?.map _)=_;rw[h];rfl
theorem HA.Ok.fs?(hok:A.Ok m){v:PartA}(h:A.parts[i]?=some v):GroIs A.mem (.f i) (v.fh.v v.p.frames.length) 2 (v.p.frames.map Frame.cs):=
 gro_of (by show(A.parts[i]?.bind _)=_;rw[h];rfl) (List.length_map ..) fun e=>by rw[hok.fh _ (List.mem_of_getElem? h) e];rfl
theorem HA.Ok.es?(hok:A.Ok m){v:PartA}(h:A.parts[i]?=some v):RowIs A.mem (.e i) (v.eh.v v.es.length) 1 (intRows v.es):=
 row_of (by show(A.parts[i]?.bind _)=_;rw[h];rfl) (List.length_map ..) fun e=>by rw[hok.eh _ (List.mem_of_getElem? h) e];rfl
theorem HA.pb?{v:PartA}(h:A.parts[i]?=some v):A.pb i=v.b:=by rw[HA.pb,h];rfl
theorem HA.cb?{v:CoilA}(h:A.coils[i]?=some v):A.cb i=v.b:=by rw[HA.cb,h];rfl
theorem HA.vb?{v:VerA}(h:A.vers[i]?=some v):A.vb i=v.b:=by rw[HA.vb,h];rfl
theorem HA.atPb{v:PartA}(h:A.parts[i]?=some v):A.mem (.p i)=some (A.pb i,.box v.cs):=by rw[HA.pb? h];exact HA.atP? h
theorem HA.atVb{v:VerA}(h:A.vers[i]?=some v):A.mem (.v i)=some (A.vb i,.box v.cs):=by rw[HA.vb? h];exact HA.atV? h
theorem HA.p_at{v:PartA}(h:A.parts[i]?=some v):A.plain.p i=v.p:=by show((A.parts.map _)[i]?.map _).getD _=_;rw[List.getElem?_map,h];rfl
theorem optP_at{f:Nat→Nat}{o:Option Nat}{b:Nat}(h:o=some i)(hb:f i=b):optP f o=pV b:=by subst h;subst hb;rfl
theorem lt_of_at{α:Type}{l:List α}{x:α}(h:l[i]?=some x):i<l.length:=(List.getElem?_eq_some_iff.1 h).1
theorem set_at{α:Type}{l:List α}{x y:α}(h:l[i]?=some x):(l.set i y)[i]?=some y:=List.getElem?_set_self (lt_of_at h)
theorem modify_at{α:Type}{l:List α}{x:α}(h:l[i]?=some x)(f:α→α):l.modify i f=l.set i (f x):=by
 refine List.ext_getElem? fun k=>?_
 rw[List.getElem?_modify,List.getElem?_set]
 by_cases e:i=k
 ·subst e;rw[if_pos rfl,h,if_pos (lt_of_at h)];simp
 ·rw[if_neg e];cases l[k]?<;>simp[e]
theorem HA.plain_part{v:PartA}(h:A.parts[i]?=some v):A.plain.parts[i]?=some (v.p,v.es):=by show(A.parts.map _)[i]?=_;rw[List.getElem?_map,h];rfl
theorem House.setP_at{H:House}{p:Part}{es:List Int}(h:H.parts[i]?=some (p,es))(f:Part→Part):H.setP i (fun _=>f p)=H.setP i f:=by
 unfold House.setP
 rw[modify_at h,modify_at h]
theorem HA.setP_plain{v w:PartA}(h:A.parts[i]?=some v):(A.setP i w).plain={A.plain with parts:=A.plain.parts.set i (w.p,w.es)}:=by
 show House.mk _ _ _ _ ((A.parts.set i w).map _) _ _ _ _ _=House.mk _ _ _ _ ((A.parts.map _).set i _) _ _ _ _ _
 rw[List.map_set]
 rfl
theorem HA.setP_ok{v w:PartA}{m':Int}(hok:A.Ok m)(h:A.parts[i]?=some v)(hm:m≤m')(h1:m'≤1000)(hf:w.fh=none→w.p.frames=[])(he:w.eh=none→w.es=[])(hlf:(w.p.frames.length:Int)≤m')(hle:(w.es.length:Int)≤m'+3)(hpl:0≤w.p.place∧w.p.place≤4)(hnl:w.p.rcp.length≤12∧w.p.coil.length≤12):(A.setP i w).Ok m':=by
 have ho:=hok.more hm h1
 have hall:∀{q:PartA→Prop},q w→(∀v∈A.parts,q v)→∀v∈(A.setP i w).parts,q v:=fun hq ha v hv=>by
  rcases List.mem_or_eq_of_mem_set hv with hv|rfl
  ·exact ha v hv
  ·exact hq
 refine⟨ho.vh,ho.ch,fun e=>?_,ho.mh,hall hf ho.fh,hall he ho.eh,ho.m0,ho.en,ho.lv,ho.lc,?_,ho.lm,hall hlf ho.lf,hall hle ho.le,fun k hk=>?_,ho.cl,ho.vb,hall hpl ho.pl,hall hnl ho.nl,ho.vn,ho.cn⟩
 ·show A.parts.set i w=[]
  rw[ho.ph e];rfl
 ·show((A.parts.set i w).length:Int)≤m'
  rw[List.length_set];exact ho.lp
 ·show k<(A.parts.set i w).length
  rw[List.length_set];exact ho.mi k hk
end
section
variable{E:Env}{U:List Nat}{s:St}{code:Code}{Q:Exit→List Nat→St→Prop}{A:HA}{m:Int}{i:Nat}{v:PartA}
theorem OK.partTo{w:PartA}{M:HM Key}(hok:A.Ok m)(hv:A.parts[i]?=some v)(hl:Ab.look s 3000=some (.res (HeapJ M)))(hb:w.b=v.b)(hp:M (.p i)=some (w.b,.box w.cs))(hf:M (.f i)=w.fh.map fun q=>(q.1,.gro 2 q.2 (w.p.frames.map Frame.cs)))(he:M (.e i)=w.eh.map fun q=>(q.1,.row 1 q.2 (intRows w.es)))
  (ho:∀k,k≠.p i→k≠.f i→k≠.e i→M k=A.mem k) (h:(A.setP i w).pb=A.pb→OK E code Q U ((3000,.res (HeapJ (A.setP i w).mem))::s)):OK E code Q U s:=by
 have hi:=lt_of_at hv
 have hvb:w.b=A.parts[i].b:=by rw[hb];rw[List.getElem?_eq_getElem hi]at hv;cases hv;rfl
 exact OK.resTo hl (HeapJ.stable _) (fun h Y w' hj=>hj.less (HA.setP_sub hi hvb hp hf he ho)) (h (A.setP_pb hi hvb))
structure HA.Like(A A1:HA)(i:Nat)(w:PartA)(H:House)(m:Int):Prop where
 ok:A1.Ok m
 b:A1.b=A.b
 pb:A1.pb=A.pb
 len:A1.parts.length=A.parts.length
 at_:A1.parts[i]?=some w
 plain:A1.plain=H
theorem HA.mem_f(hv:A.parts[i]?=some v):A.mem (.f i)=v.fh.map fun q=>(q.1,.gro 2 q.2 (v.p.frames.map Frame.cs)):=by show(A.parts[i]?.bind _)=_;rw[hv];rfl
theorem HA.mem_e(hv:A.parts[i]?=some v):A.mem (.e i)=v.eh.map fun q=>(q.1,.row 1 q.2 (intRows v.es)):=by show(A.parts[i]?.bind _)=_;rw[hv];rfl
theorem OK.part1(p':Part)(hok:A.Ok m)(hv:A.parts[i]?=some v)(hl:Ab.look s 3000=some (.res (HeapJ (A.mem.set (.p i) (some (v.b,.box ({v with p:=p'}:PartA).cs))))))(hfr:p'.frames=v.p.frames)(hpl:0≤p'.place∧p'.place≤4)
  (h:∀A1:HA,A.Like A1 i {v with p:=p'} (A.plain.setP i fun _=>p') m→OK E code Q U ((3000,.res (HeapJ A1.mem))::s)) (hn:p'.rcp=v.p.rcp∧p'.coil=v.p.coil:=by exact⟨rfl,rfl⟩):OK E code Q U s:=by
 have hmem:=List.mem_of_getElem? hv
 refine OK.partTo (w:={v with p:=p'}) hok hv hl rfl (HM.set_same ..) ?_ ?_ (fun k h1 _ _=>HM.set_other _ _ h1) fun hpb=>h _ ⟨?_,rfl,hpb,List.length_set ..,set_at hv,?_⟩
 ·rw[HM.set_other _ _ (fun h=>by cases h),HA.mem_f hv];simp only[hfr]
 ·rw[HM.set_other _ _ (fun h=>by cases h),HA.mem_e hv]
 ·exact HA.setP_ok hok hv (Int.le_refl _) hok.m0.2 (fun e=>by rw[hfr];exact hok.fh v hmem e) (hok.eh v hmem) (by rw[hfr];exact hok.lf v hmem) (hok.le v hmem) hpl (by show p'.rcp.length≤12∧p'.coil.length≤12;rw[hn.1,hn.2];exact hok.nl v hmem)
 ·rw[HA.setP_plain hv,House.setP,modify_at (HA.plain_part hv)]
theorem partE_cs(v:PartA)(q:Nat×Nat)(n:Int):v.p.cells (.raw (v.fh.v v.p.frames.length))++[.raw (.slice (some ⟨q.1,0,none⟩) ((intRows v.es).length+1) q.2)]=({v with eh:=some q,es:=v.es++[n]}:PartA).cs:=by
 simp[PartA.cs,Hd.v,intRows]
theorem OK.partE(q:Nat×Nat)(n:Int)(hok:A.Ok m)(hm:m+1≤1000)(hv:A.parts[i]?=some v)(hl:Ab.look s 3000=some (.res (HeapJ ((A.mem.set (.e i) (some (q.1,.row 1 q.2 (intRows v.es++[[.int .i64 n]])))).set (.p i) (some (v.b,.box ({v with eh:=some q,es:=v.es++[n]}:PartA).cs))))))
  (hn:n=A.entries) (h:∀A1:HA,A.Like A1 i {v with eh:=some q,es:=v.es++[n]} (A.plain.addE i) (m+1)→OK E code Q U ((3000,.res (HeapJ A1.mem))::s)):OK E code Q U s:=by
 have hmem:=List.mem_of_getElem? hv
 refine OK.partTo (w:={v with eh:=some q,es:=v.es++[n]}) hok hv hl rfl (HM.set_same ..) ?_ ?_ (fun k h1 _ h3=>by rw[HM.set_other _ _ h1,HM.set_other _ _ h3]) fun hpb=>h _ ⟨?_,rfl,hpb,List.length_set ..,set_at hv,?_⟩
 ·rw[HM.set_other _ _ (fun h=>by cases h),HM.set_other _ _ (fun h=>by cases h),HA.mem_f hv]
 ·rw[HM.set_other _ _ (fun h=>by cases h),HM.set_same];simp[intRows]
 ·refine HA.setP_ok hok hv (by omega) hm (hok.fh v hmem) (fun e=>by cases e) (by have:=hok.lf v hmem;show(v.p.frames.length:Int)≤m+1;omega) ?_ (hok.pl v hmem) (hok.nl v hmem)
  have:=hok.le v hmem
  show((v.es++[n]).length:Int)≤m+1+3
  rw[List.length_append,List.length_singleton]
  omega
 ·subst hn
  rw[HA.setP_plain hv,House.addE,modify_at (HA.plain_part hv)]
  rfl
theorem partF_cs(v:PartA)(q:Nat×Nat)(f:Frame):({v.p with frames:=v.p.frames++[f]}:Part).cells (.raw (.slice (some ⟨q.1,0,none⟩) ((v.p.frames.map Frame.cs).length+1) q.2))++[.raw (v.eh.v v.es.length)]=({v with fh:=some q,p:={v.p with frames:=v.p.frames++[f]}}:PartA).cs:=by
 simp[PartA.cs,Hd.v]
theorem OK.partF(q:Nat×Nat)(f:Frame)(hok:A.Ok m)(hm:m+1≤1000)(hv:A.parts[i]?=some v)(hl:Ab.look s 3000=some (.res (HeapJ ((A.mem.set (.f i) (some (q.1,.gro 2 q.2 (v.p.frames.map Frame.cs++[f.cs])))).set (.p i) (some (v.b,.box ({v with fh:=some q,p:={v.p with frames:=v.p.frames++[f]}}:PartA).cs))))))
  (h:∀A1:HA,A.Like A1 i {v with fh:=some q,p:={v.p with frames:=v.p.frames++[f]}} (A.plain.setP i fun p=>{p with frames:=p.frames++[f]}) (m+1)→OK E code Q U ((3000,.res (HeapJ A1.mem))::s)):OK E code Q U s:=by
 have hmem:=List.mem_of_getElem? hv
 refine OK.partTo (w:={v with fh:=some q,p:={v.p with frames:=v.p.frames++[f]}}) hok hv hl rfl (HM.set_same ..) ?_ ?_ (fun k h1 h2 _=>by rw[HM.set_other _ _ h1,HM.set_other _ _ h2]) fun hpb=>h _ ⟨?_,rfl,hpb,List.length_set ..,set_at hv,?_⟩
 ·rw[HM.set_other _ _ (fun h=>by cases h),HM.set_same];simp
 ·rw[HM.set_other _ _ (fun h=>by cases h),HM.set_other _ _ (fun h=>by cases h),HA.mem_e hv]
 ·refine HA.setP_ok hok hv (by omega) hm (fun e=>by cases e) (hok.eh v hmem) ?_ (by have:=hok.le v hmem;show(v.es.length:Int)≤m+1+3;omega) (hok.pl v hmem) (hok.nl v hmem)
  have:=hok.lf v hmem
  show((v.p.frames++[f]).length:Int)≤m+1
  rw[List.length_append,List.length_singleton]
  omega
 ·rw[HA.setP_plain hv,House.setP,modify_at (HA.plain_part hv)]
theorem HA.Like.jp{A A1:HA}{w:PartA}{H H':House}{m':Int}(h:A.Like A1 i w H m)(hm:m≤m')(h1:m'≤1000)(e:H=H'){h':Mem}{Y:Nat→Prop}{W:World}(hj:HeapJ A1.mem h' Y W):JP A H' m' h' Y W:=⟨A1,⟨h.ok.more hm h1,h.b,h.pb,h.len,h.plain.trans e⟩,hj⟩
theorem HA.jp{H:House}{m':Int}(hok:A.Ok m)(hm:m≤m')(h1:m'≤1000)(e:H=A.plain){h':Mem}{Y:Nat→Prop}{W:World}(hj:HeapJ A.mem h' Y W):JP A H m' h' Y W:=⟨A,⟨hok.more hm h1,rfl,rfl,rfl,e.symm⟩,hj⟩
theorem HA.jx{H:House}{m':Int}(hok:A.Ok m)(hm:m≤m')(h1:m'≤1000)(e:H=A.plain){h':Mem}{Y:Nat→Prop}{W:World}(hj:HeapJ A.mem h' Y W):JX A.b H m' h' Y W:=⟨A,⟨rfl,e.symm,hok.more hm h1⟩,hj⟩
theorem jx_of{A1:HA}{b:Nat}{H:House}{m':Int}(hok:A1.Ok m)(hm:m≤m')(h1:m'≤1000)(hb:A1.b=b)(hp:A1.plain=H){h':Mem}{Y:Nat→Prop}{W:World}(hj:HeapJ A1.mem h' Y W):JX b H m' h' Y W:=⟨A1,⟨hb,hp,hok.more hm h1⟩,hj⟩
end
def lastIx{α:Type}(g:α→Bool)(l:List α):Option Nat:=(ix g l.reverse).map fun j=>l.length - 1 - j
def backSt{α:Type}(g:α→Bool)(l:List α)(q:Option Nat)(i:Nat):Option Nat×Option Code:=if(l[i]?.map g).getD false then(some i,some .ret)else(q,none)
theorem back_T{α:Type}{g:α→Bool}{l:List α}{q:Option Nat}{i:Nat}{x:α}(h:l[i]?=some x)(hg:g x=true):backSt g l q i=(some i,some .ret):=by unfold backSt;rw[h];simp[hg]
theorem back_F{α:Type}{g:α→Bool}{l:List α}{q:Option Nat}{i:Nat}{x:α}(h:l[i]?=some x)(hg:¬g x=true):backSt g l q i=(q,none):=by unfold backSt;rw[h];simp[hg]
theorem back_eq{α:Type}(g:α→Bool)(l:List α):∀L:List Nat,iterG (Ab.stepG (backSt g l)) ((none:Option Nat),none) L=match L.find? (fun i=>(l[i]?.map g).getD false)with|some i=>((some i,some .ret),false)|none=>((none,none),true)
 |[]=>rfl
 |i::L=>by
  rw[iterG,List.find?_cons]
  cases hp:(l[i]?.map g).getD false with
  |true=>
   have e:backSt g l none i=(some i,some .ret):=by unfold backSt;rw[if_pos hp]
   simp only[Ab.stepG,e]
   rfl
  |false=>
   have e:backSt g l none i=(none,none):=by unfold backSt;rw[if_neg (by rw[hp];decide)]
   simp only[Ab.stepG,e,Option.isNone_none,if_true]
   exact back_eq g l L
theorem ixGo_find{α:Type}(g:α→Bool):∀(l:List α)(k:Nat),ixGo g k l=((List.range l.length).find? (fun i=>(l[i]?.map g).getD false)).map (· +k)
 |[],_=>rfl
 |x::l,k=>by
  rw[ixGo,List.length_cons,List.range_succ_eq_map,List.find?_cons]
  cases hg:g x with
  |true=>simp[hg]
  |false=>
   simp only[List.getElem?_cons_zero,Option.map_some,Option.getD_some,hg,Bool.false_eq_true,if_false,List.find?_map]
   rw[ixGo_find g l (k+1)]
   have e:((fun i=>((x::l)[i]?.map g).getD false)∘Nat.succ)=fun i=>(l[i]?.map g).getD false:=by funext i;simp
   rw[e]
   cases (List.range l.length).find? (fun i=>(l[i]?.map g).getD false)with
   |none=>rfl
   |some j=>simp;omega
theorem last_find{α:Type}(g:α→Bool)(l:List α):lastIx g l=(List.range l.length).reverse.find? (fun i=>(l[i]?.map g).getD false):=by
 have hr:(List.range l.length).reverse=(List.range l.length).map fun i=>l.length - 1 - i:=by
  refine List.ext_getElem? fun k=>?_
  rcases Nat.lt_or_ge k l.length with h|h
  ·rw[List.getElem?_reverse (by rw[List.length_range];exact h),List.length_range,List.getElem?_range (by omega),List.getElem?_map,List.getElem?_range h];rfl
  ·rw[List.getElem?_eq_none (by simpa using h),List.getElem?_eq_none (by simpa using h)]
 unfold lastIx ix
 rw[ixGo_find,List.length_reverse,hr,List.find?_map,Option.map_map]
 have e:(List.range l.length).find? (fun i=>(l.reverse[i]?.map g).getD false)=(List.range l.length).find? ((fun i=>(l[i]?.map g).getD false)∘fun i=>l.length - 1 - i):=by
  have key:∀L:List Nat,(∀i∈L,i<l.length)→L.find? (fun i=>(l.reverse[i]?.map g).getD false)=L.find? ((fun i=>(l[i]?.map g).getD false)∘fun i=>l.length - 1 - i):=by
   intro L
   induction L with
   |nil=>intro _;rfl
   |cons a L ih=>
    intro h
    rw[List.find?_cons,List.find?_cons,ih fun i hi=>h i (List.mem_cons_of_mem _ hi),List.getElem?_reverse (h a List.mem_cons_self)]
    rfl
  exact key _ fun i hi=>by simpa using hi
 rw[e]
 rfl
theorem back_done{α:Type}{g:α→Bool}{l:List α}{q:Option Nat}(h:iterG (Ab.stepG (backSt g l)) ((none:Option Nat),none) (List.range l.length).reverse=((q,none),true)):q=none∧lastIx g l=none:=by
 rw[back_eq,←last_find]at h
 cases e:lastIx g l with
 |none=>rw[e]at h;cases h;exact⟨rfl,rfl⟩
 |some i=>rw[e]at h;cases h
theorem back_stop{α:Type}{g:α→Bool}{l:List α}{q:Option Nat}{cd:Code}(h:(iterG (Ab.stepG (backSt g l)) ((none:Option Nat),none) (List.range l.length).reverse).1=(q,some cd)):q=lastIx g l∧cd=.ret:=by
 rw[back_eq,←last_find]at h
 cases e:lastIx g l with
 |none=>rw[e]at h;cases h
 |some i=>rw[e]at h;cases h;exact⟨rfl,rfl⟩
theorem rr_at{n k:Nat}(h1:1≤k)(h2:k≤n):(List.range n).reverse[n - k]?=some (k - 1):=by
 rw[List.getElem?_reverse (by rw[List.length_range];omega),List.length_range,List.getElem?_range (by omega)]
 congr 1
 omega
theorem rr_take{n k:Nat}(h1:1≤k)(h2:k≤n):(List.range n).reverse.take (n - (k - 1))=(List.range n).reverse.take (n - k)++[k - 1]:=by
 obtain⟨hl,hv⟩:=List.getElem?_eq_some_iff.1 (rr_at h1 h2)
 rw[show n - (k - 1)=n - k+1 by omega,List.take_succ_eq_append_getElem hl,hv]
theorem rr_split{n k:Nat}(h1:1≤k)(h2:k≤n):∃rest,(List.range n).reverse=(List.range n).reverse.take (n - k)++(k - 1)::rest:=by
 have h:=(List.take_append_drop (n - (k - 1)) (List.range n).reverse).symm
 rw[rr_take h1 h2,List.append_assoc]at h
 exact⟨_,h⟩
theorem optS{α β:Type}(f:α→β)(o:Option α):(!(o.map f).isNone)=o.isSome:=by cases o<;>rfl
theorem notNone{α:Type}(o:Option α):(!o.isNone)=o.isSome:=by cases o<;>rfl
theorem optN{α β:Type}(f:α→β)(o:Option α):(o.map f).isNone=o.isNone:=by cases o<;>rfl
theorem opt_someF{α β:Type}{f:α→β}{o:Option α}(h:(o.map f).isNone=false):∃i,o=some i:=by cases o with|none=>cases h|some i=>exact⟨i,rfl⟩
theorem opt_none{α β:Type}{f:α→β}{o:Option α}(h:(o.map f).isNone=true):o=none:=by cases o with|none=>rfl|some i=>cases h
theorem at_of_lt{α:Type}{l:List α}{i:Nat}(h:i<l.length):∃x,l[i]?=some x:=⟨_,List.getElem?_eq_getElem h⟩
theorem all_known:∀(l:List Row),(!decide (0≤idxGo (fun r=>!r.known) 0 l))=l.all fun r=>r.known:=by
 have key:∀(l:List Row)(k:Nat),(!decide (0≤idxGo (fun r=>!r.known) k l))=l.all fun r=>r.known:=by
  intro l
  induction l with
  |nil=>intro k;rfl
  |cons r l ih=>
   intro k
   rw[idxGo,List.all_cons]
   cases h:r.known with
   |true=>simpa[h]using ih (k+1)
   |false=>simp
 exact fun l=>key l 0
def findE(n:Int)(o:Bool):Int:=firstE [unlessE (decide (0≤n∧n≤1000000)) 2,unlessE o 6]
def numP(g:Part→Bool)(l:List PartA):List Int:=(l.filter fun v=>g v.p).map fun v=>v.p.num
theorem numP_T{g:Part→Bool}{l:List PartA}{i:Nat}(h:i<l.length)(hg:g l[i].p=true):numP g (l.take (i+1))=numP g (l.take i)++[l[i].p.num]:=by
 unfold numP;rw[List.take_succ_eq_append_getElem h,List.filter_append,List.map_append,List.filter_cons_of_pos (p:=fun v:PartA=>g v.p) hg];rfl
theorem numP_F{g:Part→Bool}{l:List PartA}{i:Nat}(h:i<l.length)(hg:g l[i].p=false):numP g (l.take (i+1))=numP g (l.take i):=by
 unfold numP;rw[List.take_succ_eq_append_getElem h,List.filter_append,List.filter_cons_of_neg (p:=fun v:PartA=>g v.p) (by rw[hg];decide),List.filter_nil,List.append_nil]
theorem caps_all{U:List Nat}{caps:List X}(h:caps.all (okP [])=true):caps.all (okP U)=true:=by
 rw[List.all_eq_true]at h⊢
 intro x hx
 have:=h x hx
 cases x<;>simp_all[okP]
theorem numP_len(g:Part→Bool)(l:List PartA):(numP g l).length≤l.length:=by
 unfold numP;rw[List.length_map];exact List.length_filter_le _ _
theorem rec_isHere{A:HA}{i:Nat}{v:PartA}(hv:A.parts[i]?=some v){J:Mem→(Nat→Prop)→World→Prop}(hS:Stable J)(hJ:∀h Y w,J h Y w→HeapJ A.mem h Y w):CtG Tryz.prog 94 [] [.raw (pV v.b)] [(3000,.res J)] [(3000,.res J)] (.bool (isHereT v.p)):=by
 refine CtG.intro (rs:=[.tmp 2]) Tryz.func94 rfl Tryz.ntmps94 Tryz.results94 rfl rfl rfl rfl fun w h=>?_
 refine kr (kc (zb rfl) (kq (kc (zm rfl) (kc (zn rfl rfl) (kc (zr fi123_0 rfl) (kc (zr fi68_4 rfl) (kc (S.rload1 ti3 .none rfl (zt rfl) rfl (ldJ hJ (HeapJ.ld1 (k:=.p i) (HA.atP? hv) rfl (.same _)))) (kc (zE rfl rfl) (kc (zm rfl) (RK.splitD (t:=9) rfl (fun g9=>?_) (fun g9=>?_)))))))))))
 ·
  refine kc (zQ rfl rfl) (kc (zQ rfl rfl) (kc (zQ rfl rfl) (kc (zQ rfl rfl) (kc (zQ rfl rfl) (kc (zQ rfl rfl) (kc (S.pickT .none rfl (zt rfl) .cbool rfl) (kc (za rfl) (kD (OK.ret ⟨Ret.r1 (zo rfl rfl) ?_,rfl,trivial⟩)))))))))
  simp[isHereT, *]
 ·
  refine kc (S.move (zg rfl rfl) rfl (zt rfl)) (kc (S.rnil (zg rfl rfl) rfl (zt rfl) rfl) (kc (S.rfield fi123_0 (zg rfl rfl) rfl (zt rfl)) (kc (S.rfield fi68_4 (zg rfl rfl) rfl (zt rfl)) (kc (S.rload1 ti3 (zg rfl rfl) rfl (zt rfl) rfl (ldJ hJ (HeapJ.ld1 (k:=.p i) (HA.atP? hv) rfl (.same _)))) (kc (S.eql (zg rfl rfl) rfl (zt rfl) (.cint rfl)) (kc (S.pickF .none rfl (zt rfl) (zt rfl) rfl) (kc (za rfl) (kD (OK.ret ⟨Ret.r1 (zo rfl rfl) ?_,rfl,trivial⟩)))))))))
  simp[isHereT, *]
theorem rec_mayLeave{A:HA}{i:Nat}{v:PartA}(hv:A.parts[i]?=some v){J:Mem→(Nat→Prop)→World→Prop}(hS:Stable J)(hJ:∀h Y w,J h Y w→HeapJ A.mem h Y w):CtG Tryz.prog 50 [] [.raw (pV v.b)] [(3000,.res J)] [(3000,.res J)] (.bool (mayT v.p)):=by
 refine CtG.intro (rs:=[.tmp 2]) Tryz.func50 rfl Tryz.ntmps50 Tryz.results50 rfl rfl rfl rfl fun w h=>?_
 refine kr (kc (zb rfl) (kq (kc (zm rfl) (kc (zn rfl rfl) (kc (zr fi123_0 rfl) (kc (zr fi68_4 rfl) (kc (S.rload1 ti3 .none rfl (zt rfl) rfl (ldJ hJ (HeapJ.ld1 (k:=.p i) (HA.atP? hv) rfl (.same _)))) (kc (zE rfl rfl) (kc (zm rfl) (RK.splitD (t:=9) rfl (fun g9=>?_) (fun g9=>?_)))))))))))
 ·
  refine kc (S.move (zg rfl rfl) rfl (zt rfl)) (kc (S.rnil (zg rfl rfl) rfl (zt rfl) rfl) (kc (S.rfield fi123_0 (zg rfl rfl) rfl (zt rfl)) (kc (S.rfield fi68_5 (zg rfl rfl) rfl (zt rfl)) (kc (S.rload1 ti4 (zg rfl rfl) rfl (zt rfl) rfl (ldJ hJ (HeapJ.ld1 (k:=.p i) (HA.atP? hv) rfl (.same _)))) (kc (S.pickT .none rfl (zt rfl) (zt rfl) rfl) (kc (zm rfl) (RK.split (t:=16) rfl (fun g16=>?_) (fun g16=>?_))))))))
  ·
   refine kc (S.move (zg rfl rfl) rfl (zt rfl)) (kc (S.rnil (zg rfl rfl) rfl (zt rfl) rfl) (kc (S.rfield fi123_0 (zg rfl rfl) rfl (zt rfl)) (kc (S.rfield fi68_6 (zg rfl rfl) rfl (zt rfl)) (kc (S.rload1 ti3 (zg rfl rfl) rfl (zt rfl) rfl (ldJ hJ (HeapJ.ld1 (k:=.p i) (HA.atP? hv) rfl (.same _)))) (kc (S.eql (zg rfl rfl) rfl (zt rfl) (.cint rfl)) (kc (S.pickT .none rfl (zt rfl) (zt rfl) rfl) (kc (zm rfl) (RK.splitD (t:=24) rfl (fun g24=>?_) (fun g24=>?_)))))))))
   ·
    refine kc (S.move (zg rfl rfl) rfl (zt rfl)) (kc (S.rnil (zg rfl rfl) rfl (zt rfl) rfl) (kc (S.rfield fi123_0 (zg rfl rfl) rfl (zt rfl)) (kc (S.rfield fi68_7 (zg rfl rfl) rfl (zt rfl)) (kc (S.rload1 ti4 (zg rfl rfl) rfl (zt rfl) rfl (ldJ hJ (HeapJ.ld1 (k:=.p i) (HA.atP? hv) rfl (.same _)))) (kc (S.not (zg rfl rfl) rfl (zt rfl)) (kc (S.pickT .none rfl (zt rfl) (zt rfl) rfl) (kc (za rfl) (kD (OK.ret ⟨Ret.r1 (zo rfl rfl) ?_,rfl,trivial⟩)))))))))
    simp[mayT, *]
   ·
    refine kc (zQ rfl rfl) (kc (zQ rfl rfl) (kc (zQ rfl rfl) (kc (zQ rfl rfl) (kc (zQ rfl rfl) (kc (zQ rfl rfl) (kc (S.pickF .none rfl (zt rfl) .cbool rfl) (kc (za rfl) (kD (OK.ret ⟨Ret.r1 (zo rfl rfl) ?_,rfl,trivial⟩)))))))))
    simp[mayT, *]
  ·
   refine kc (zQ rfl rfl) (kc (zQ rfl rfl) (kc (zQ rfl rfl) (kc (zQ rfl rfl) (kc (zQ rfl rfl) (kc (zQ rfl rfl) (kc (S.pickF .none rfl (zt rfl) .cbool rfl) (kc (zm rfl) (kc (zQ rfl rfl) (kc (zQ rfl rfl) (kc (zQ rfl rfl) (kc (zQ rfl rfl) ?_)))))))))))
   refine kc (zQ rfl rfl) (kc (zQ rfl rfl) (kc (S.pickF .none rfl (zt rfl) .cbool rfl) (kc (za rfl) (kD (OK.ret ⟨Ret.r1 (zo rfl rfl) ?_,rfl,trivial⟩)))))
   simp[mayT, *]
 ·
  refine kc (zQ rfl rfl) (kc (zQ rfl rfl) (kc (zQ rfl rfl) (kc (zQ rfl rfl) (kc (zQ rfl rfl) (kc (S.pickF .none rfl (zt rfl) .cbool rfl) (kc (zm rfl) (kc (zQ rfl rfl) (kc (zQ rfl rfl) (kc (zQ rfl rfl) (kc (zQ rfl rfl) (kc (zQ rfl rfl) ?_)))))))))))
  refine kc (zQ rfl rfl) (kc (S.pickF .none rfl (zt rfl) .cbool rfl) (kc (zm rfl) (kc (zQ rfl rfl) (kc (zQ rfl rfl) (kc (zQ rfl rfl) (kc (zQ rfl rfl) (kc (zQ rfl rfl) (kc (zQ rfl rfl) (kc (S.pickF .none rfl (zt rfl) .cbool rfl) (kc (za rfl) (kD ?_)))))))))))
  refine OK.ret ⟨Ret.r1 (zo rfl rfl) ?_,rfl,trivial⟩
  simp[mayT, *]
theorem rec_Backward{l:List VerA}:CtN Tryz.prog 159 [.sl (l.map vRow)] 218 [[.sl (l.map vRow)]]:=by
 refine CtN.intro (kb:=[(1,[.sl (l.map vRow)])]) Tryz.func159 rfl Tryz.ntmps159 Tryz.results159 rfl rfl rfl (by simp) fun w h=>?_
 refine kr (RK.c (zB (c:=1) rfl rfl) (kc (S.assign .none rfl .craw) (kq (kc (S.makeFunc1 .none rfl (zt rfl) rfl) (kc (za rfl) (kD ?_))))))
 exact OK.ret ⟨.inl rfl,rfl,rfl,⟨rfl,trivial⟩,rfl⟩
theorem rec_Backward1{A:HA}(hlv:(A.vers.length:Int)≤1000){σ:Type}(J:σ→Mem→(Nat→Prop)→World→Prop)(g:σ→Nat→σ×Bool)(s0:σ)(Φ:Value→Prop)(hst:∀s,Stable (J s))(hcb:∀v,Φ v→∀(i:Nat)(x:Nat),(List.range A.vers.length).reverse[i]?=some x→(iterG g s0 ((List.range A.vers.length).reverse.take i)).2=true→CbOk Tryz.prog v [.int .i64 x,.raw (pV (A.vb x))] (.bool (g (iterG g s0 ((List.range A.vers.length).reverse.take i)).1 x).2) (J (iterG g s0 ((List.range A.vers.length).reverse.take i)).1) (J (g (iterG g s0 ((List.range A.vers.length).reverse.take i)).1 x).1)):CtG Tryz.prog 218 [874] [.cb Φ,.ptr 874 0] [(3000,.res (J s0)),(1874,.box [.sl (A.vers.map vRow)])] [(3000,.res (J (iterG g s0 (List.range A.vers.length).reverse).1))] (.tup []):=by
 refine CtG.intro (rs:=[]) Tryz.func218 rfl Tryz.ntmps218 Tryz.results218 rfl rfl rfl rfl fun w h=>?_
 refine kr (kc (zl ti125 rfl rfl rfl rfl) (kc (zk si125 rfl) (kc (S.sub .none rfl (zt rfl) (.cint rfl) (IntWalk.i64_in _ (by omega)) (IntWalk.i64_in _ (by omega))) (kc (za rfl) (kD (OK.block ?_))))))
 refine OK.loop (G:=Nat) [874] (fun k=>[(0,.cb Φ),(1,.ptr 874 0),(1874,.box [.sl (A.vers.map vRow)]),(3,.int .i64 ((k:Int) - 1)),(3000,.res (J (iterG g s0 ((List.range A.vers.length).reverse.take (A.vers.length - k))).1))]) (fun k=>k≤A.vers.length∧(iterG g s0 ((List.range A.vers.length).reverse.take (A.vers.length - k))).2=true) (fun k=>k) A.vers.length ⟨Nat.le_refl _,by rw[Nat.sub_self];rfl⟩ ⟨rfl,rfl,rfl,rfl,(lkR (by rw[Nat.sub_self];rfl)),trivial⟩ (fun _=>rfl) ?_
 rintro k ⟨hk,hrun⟩
 refine OK.seq (kr ?_)
 refine kc (zm rfl) (kc (S.geq .none rfl (zt rfl) (.cint rfl)) (kD (kB rfl (fun c8=>?_) (fun c8=>?_))))
 ·
  have hk1:1≤k:=by omega
  have hjl:k - 1<A.vers.length:=by omega
  have htk:=rr_take hk1 hk
  have hat:=rr_at hk1 hk
  have hvb:=HA.vb_at hjl
  have hki:((k:Nat):Int) - 1=((k - 1:Nat):Int):=by omega
  have hcb2:∀v,Φ v→CbOk Tryz.prog v [.int .i64 (((k:Nat):Int) - 1),.raw (pV A.vers[k - 1].b)] (.bool (g (iterG g s0 ((List.range A.vers.length).reverse.take (A.vers.length - k))).1 (k - 1)).2) (J (iterG g s0 ((List.range A.vers.length).reverse.take (A.vers.length - k))).1) (J (g (iterG g s0 ((List.range A.vers.length).reverse.take (A.vers.length - k))).1 (k - 1)).1):=fun v hv=>by rw[hki,←hvb];exact hcb v hv _ _ hat hrun
  refine OK.skip (Ab.D.code (kO (OK.block (kr (kc (zm rfl) (kc (zm rfl) (kc (zl ti125 rfl rfl rfl rfl) (kc (zm rfl) (kc (S.indexM (n:=k - 1) si125 .none rfl (zt rfl) (zt rfl) (by omega) hjl rfl) (kc (zV ti126 rfl rfl) (kc (S.callcb (J1:=J (g (iterG g s0 ((List.range A.vers.length).reverse.take (A.vers.length - k))).1 (k - 1)).1) (hcb2) (hst _) .none rfl (zt rfl) (zc rfl (zc rfl .nil)) rfl rfl) ?_)))))))))))
  refine kc (S.not .none rfl (zt rfl)) (kD (OK.cond rfl rfl (fun c18=>?_) (fun c18=>?_)))
  ·
   have hstop:(g (iterG g s0 ((List.range A.vers.length).reverse.take (A.vers.length - k))).1 (k - 1)).2=false:=by simpa using c18
   obtain⟨rest,hsp⟩:=rr_split hk1 hk
   have hfin:=it_stop (rest:=rest) hrun hstop
   rw[←hsp]at hfin
   exact OK.ret ⟨⟨.inl rfl,[],trivial,rfl⟩,lkR (by rw[hfin]),trivial⟩
  ·
   have hcont:(g (iterG g s0 ((List.range A.vers.length).reverse.take (A.vers.length - k))).1 (k - 1)).2=true:=by simpa using c18
   refine OK.skip (Ab.D.blk (Ab.D.code (OK.reg ?_)))
   refine kc (zm rfl) (kc (S.sub .none rfl (zt rfl) (.cint rfl) (IntWalk.i64_in _ (by omega)) (IntWalk.i64_in _ (by omega))) (kc (za rfl) (RK.nil (Ab.D.lp ⟨k - 1,⟨by omega,by rw[htk,it_go hrun hcont]⟩,(by omega),rfl,rfl,rfl,(lkI (by omega)),(lkR (by rw[htk,it_go hrun hcont])),trivial⟩))))
 ·
  refine OK.exit rfl ?_
  exact⟨⟨.inr rfl,[],trivial,rfl⟩,lkR (by rw[show k=0 by omega,Nat.sub_zero,List.take_of_length_le (by simp)]),trivial⟩
theorem rec_seqBack{A:HA}(hlv:(A.vers.length:Int)≤1000):SeqOkB Tryz.prog 218 [(874,[.sl (A.vers.map vRow)])] [.ptr 874 0] (fun(i:Nat)=>[.int .i64 (i:Int),.raw (pV (A.vb i))]) (List.range A.vers.length).reverse:=
 fun J g s0 Φ hst hcb=>rec_Backward1 hlv J g s0 Φ hst hcb
theorem rec_recipe{A:HA}{m:Int}(hok:A.Ok m){n:List UInt8}{J:Mem→(Nat→Prop)→World→Prop}(hS:Stable J)(hJ:∀h Y w,J h Y w→HeapJ A.mem h Y w):CtG Tryz.prog 101 [] [.raw (pV A.b),.str n] [(3000,.res J)] [(3000,.res J)] (.raw (optP A.vb (lastIx (fun v=>decide (v.r.name=n)) A.vers))):=by
 refine CtG.intro (rs:=[.cell 4 126]) Tryz.func101 rfl Tryz.ntmps101 Tryz.results101 rfl rfl rfl rfl fun w h=>?_
 refine kr (RK.c (zB (c:=3) rfl rfl) (RK.c (zA (c:=4) ze126 rfl) (kD (kO (kr ?_)))))
 refine kc (zm rfl) (kc (zn rfl rfl) (kc (zr fi130_1 rfl) (kc (S.rload1 (u:=.sl (A.vers.map vRow)) ti125 .none rfl (zt rfl) rfl (ldJ hJ (HeapJ.ld1 (k:=.house) rfl rfl (.sl hok.vs)))) (RK.c (S.callN [874] (rec_Backward (l:=A.vers)) Tryz.call159 .none rfl (zc rfl .nil) rfl) (kD (OK.block ?_))))))
 refine OK.rangeFuncB (ps:=[12,13]) (encs:=(fun(i:Nat)=>[.int .i64 (i:Int),.raw (pV (A.vb i))])) (L:=(List.range A.vers.length).reverse) [3,4] [(3,.ptr 3 0),(4,.ptr 4 0)] (fun q=>[(1003,.box [.str n]),(1004,.box [.raw (optP A.vb q)]),(3000,.res J)]) (none:Option Nat) (backSt (fun v=>decide (v.r.name=n)) A.vers) [(874,[.sl (A.vers.map vRow)])] ((rec_seqBack (by have:=hok.lv;have:=hok.m0;omega))) ⟨rfl,trivial⟩ rfl Tryz.call218 (.inl rfl) (zt rfl) rfl ⟨rfl,rfl,rfl,rfl,rfl,trivial⟩ (fun _=>rfl) (fun _=>rfl) (fun _=>rfl) (fun _=>rfl) (fun _=>rfl) (by decide) rfl ?_ ?_ ?_
 ·rintro i x q hx hq lr c0 w0 p1 p2 hR1 hR2
  have hxl:x<A.vers.length:=by have:=List.mem_of_getElem? hx;simpa using this
  obtain⟨v,hv⟩:=at_of_lt hxl
  refine OK.reg (kc (za rfl) (RK.nil ?_))
  refine⟨rfl,?_⟩
  refine OK.block (kO (OK.regionDraw follows (.c (zm rfl) (.c (zn rfl rfl) (.c (zr fi135_0 rfl) (.c (zr fi133_0 rfl) (.c (zr fi59_0 rfl) (.c (S.rload1 ti9 .none rfl (zt rfl) rfl (ldJ hJ (HeapJ.ld1 (k:=.v x) (HA.atVb hv) rfl (.same _)))) (.c (zl ti9 rfl rfl rfl rfl) (.c (S.seql .none rfl (zt rfl) (zt rfl)) .nil)))))))) (by kernel_rfl) ?_))
  refine Ab.D.code (kB rfl (fun c21=>?_) (fun c21=>?_))
  ·
   refine kr (kc (zm rfl) (kc (zS ti126 rfl rfl rfl rfl rfl rfl) (kD (OK.ret ?_))))
   rw[back_T hv (by simpa using c21)]
   exact⟨rfl,rfl,rfl,rfl,trivial⟩
  ·
   refine OK.skip (Ab.D.blk ?_)
   rw[back_F hv (by simpa using c21)]
   exact⟨rfl,rfl,rfl,rfl,trivial⟩
 ·rintro q hq
  obtain⟨rfl,hq2⟩:=back_done hq
  refine Ab.D.blk (kp (kc (S.store ti126 .none (zt rfl) .craw rfl rfl rfl rfl rfl rfl) (kD (OK.ret ⟨Ret.r1 (.cell1 rfl rfl rfl rfl ti126 (.same rfl) rfl) ?_,rfl,trivial⟩))))
  exact ret_N hq2
 ·rintro q cd hq
  obtain⟨rfl,rfl⟩:=back_stop hq
  refine OK.ret ⟨Ret.r1 (.cell1 rfl rfl rfl rfl ti126 (.same rfl) rfl) ?_,rfl,trivial⟩
  rfl
theorem rec_record{A:HA}{m:Int}(hok:A.Ok m){i:Nat}{v:PartA}(hv:A.parts[i]?=some v){J:Mem→(Nat→Prop)→World→Prop}(hS:Stable J)(hJ:∀h Y w,J h Y w→HeapJ A.mem h Y w):CtG Tryz.prog 177 [] [.raw (pV A.b),.raw (pV v.b)] [(3000,.res J)] [(3000,.res J)] (.agg (recOf A.plan v.p.frames).cs):=by
 refine CtG.intro (rs:=[.cell 4 223]) Tryz.func177 rfl Tryz.ntmps177 Tryz.results177 rfl rfl rfl rfl fun w h=>?_
 refine kr (RK.c (zA (c:=4) ze223 rfl) (kD (kO (OK.regionDraw follows (.c (zm rfl) (.c (zn rfl rfl) (.c (zr fi130_0 rfl) (.c (zr fi107_1 rfl) (.c (S.rloadN (us:=A.plan.cs) ti105 .none rfl (zt rfl) rfl (ldJ hJ (HeapJ.ldN (k:=.house) (xs:=A.cs) rfl ⟨.same _,.same _,trivial⟩ rfl))) (.c (zm rfl) (.c (zn rfl rfl) (.c (zr fi123_0 rfl) (.c (zr fi68_3 rfl) (.c (S.rload1 (u:=.sl (v.p.frames.map Frame.cs)) ti62 .none rfl (zt rfl) rfl (ldJ hJ (HeapJ.ld1 (k:=.p i) (HA.atP? hv) rfl (.sl (hok.fs? hv))))) (.c (S.call (mon_RecordOf) Tryz.call233 .none rfl (zc rfl (zc rfl .nil)) rfl) (.c (zm rfl) (.c (zX rfl rfl rfl) (.c (zX rfl rfl rfl) (.c (zA (c:=5) ze223 rfl) (.c (zS ti223 rfl rfl rfl rfl rfl rfl) (.c (za rfl) .nil))))))))))))))))) (by kernel_rfl) ?_))))
 refine kp (kc (zL ti223 rfl rfl rfl rfl) (kc (zS ti223 rfl rfl rfl rfl rfl rfl) (kD (OK.ret ⟨Ret.r1 (.cellN rfl rfl rfl rfl ti223 rfl (.k (.same rfl) .z)) ?_,rfl,trivial⟩))))
 rfl
theorem rec_isWhole1{r:Row}:Ct Tryz.prog 235 [.agg r.cs] (.bool (!r.known)):=by
 refine Ct.intro (rs:=[.tmp 2]) Tryz.func235 rfl Tryz.ntmps235 Tryz.results235 rfl rfl rfl fun w h=>?_
 refine kr (RK.c (zB (c:=1) rfl rfl) (kc (zb rfl) (kq (kc (zf fi303_0 rfl) (kc (zl ti4 rfl rfl rfl rfl) (kc (S.not .none rfl (zt rfl)) (kc (za rfl) (kD (OK.ret (Ret.r1 (zo rfl rfl) ?_))))))))))
 rfl
theorem rec_ixRow{l:List Row}:Ct Tryz.prog 283 [.sl (l.map Row.cs),.fn 235 []] (.int .i64 (idxGo (fun r=>!r.known) 0 l)):=by
 refine Ct.intro (rs:=[.tmp 4]) Tryz.func283 rfl Tryz.ntmps283 Tryz.results283 rfl rfl rfl fun w h=>?_
 refine OK.slLen (rows:=l.map Row.cs) (t:=0) rfl rfl fun hlen=>?_
 rw[List.length_map]at hlen
 unfold maxLen at hlen
 refine kr (kc (zi rfl rfl) (kD (kO (kr ?_))))
 refine kc (zm rfl) (kc (zk si221 rfl) (kc (S.move .none rfl (.cint rfl)) (kD (OK.block (OK.loop (G:=Nat) [] (fun i=>[(0,.sl (l.map Row.cs)),(1,.fn 235 []),(7,.int .i64 l.length),(8,.int .i64 i)]) (fun i=>i≤l.length∧idxGo (fun r=>!r.known) 0 l=idxGo (fun r=>!r.known) i (l.drop i)) (fun i=>l.length - i) 0 ⟨Nat.zero_le _,rfl⟩ ⟨rfl,rfl,rfl,rfl,trivial⟩ (fun _=>rfl) ?_)))))
 rintro i ⟨hi,hg⟩
 refine kr (kc (S.lss .none rfl (zt rfl) (zt rfl)) (kD (kO (kB rfl (fun c9=>?_) (fun c9=>?_)))))
 ·
  have hil:i<l.length:=by omega
  refine OK.skip (Ab.D.code (kO (OK.block (kr (kc (zm rfl) (kc (za rfl) (kq (kc (zm rfl) (kc (zm rfl) (kc (zm rfl) (kc (S.indexM (n:=i) si221 .none rfl (zt rfl) (zt rfl) rfl (by omega) rfl) ?_)))))))))))
  refine kc (S.loadN ti303 .none rfl (zt rfl) rfl rfl) (kc (S.callv (rec_isWhole1 (r:=l[i])) Tryz.call235 .none rfl (zt rfl) (zc rfl .nil) rfl rfl rfl) (kD (OK.cond rfl rfl (fun c16=>?_) (fun c16=>?_))))
  ·
   refine kr (kc (zm rfl) (kc (za rfl) (kD (OK.ret (Ret.r1 (zo rfl rfl) ?_)))))
   refine ret_i ?_
   rw[hg,idxGo_drop _ (by omega)]
   simp_all
  ·
   refine OK.skip (Ab.D.blk (Ab.D.code (OK.reg ?_)))
   refine kc (zp rfl rfl (by omega)) (kc (zm rfl) (RK.nil (Ab.D.lp ⟨i+1,⟨by omega,?_⟩,(by omega),rfl,rfl,rfl,rfl,trivial⟩)))
   rw[hg,idxGo_drop _ (by omega)]
   simp_all
 ·
  refine OK.exit rfl (kp (kc (zi rfl rfl) (kD (OK.ret (Ret.r1 (zo rfl rfl) ?_)))))
  refine ret_i ?_
  have:i=l.length:=by omega
  subst this
  rw[hg,List.drop_length]
  rfl
theorem rec_ctRow{l:List Row}:Ct Tryz.prog 234 [.sl (l.map Row.cs),.fn 235 []] (.bool (decide (0≤idxGo (fun r=>!r.known) 0 l))):=by
 refine Ct.intro (rs:=[.tmp 4]) Tryz.func234 rfl Tryz.ntmps234 Tryz.results234 rfl rfl rfl fun w h=>?_
 refine kr (kc (zb rfl) (kq (kc (zm rfl) (kc (zm rfl) (kc (S.call (rec_ixRow (l:=l)) Tryz.call283 .none rfl (zc rfl (zc rfl .nil)) rfl) (kc (S.geq .none rfl (zt rfl) (.cint rfl)) (kc (za rfl) (kD (OK.ret (Ret.r1 (zo rfl rfl) ?_))))))))))
 rfl
theorem rec_isWhole{A:HA}{m:Int}(hok:A.Ok m){i:Nat}{v:PartA}(hv:A.parts[i]?=some v){J:Mem→(Nat→Prop)→World→Prop}(hS:Stable J)(hJ:∀h Y w,J h Y w→HeapJ A.mem h Y w):CtG Tryz.prog 178 [] [.raw (pV A.b),.raw (pV v.b)] [(3000,.res J)] [(3000,.res J)] (.bool ((recOf A.plan v.p.frames).rows.all fun r=>r.known)):=by
 refine CtG.intro (rs:=[.tmp 4]) Tryz.func178 rfl Tryz.ntmps178 Tryz.results178 rfl rfl rfl rfl fun w h=>?_
 refine kr (kc (zb rfl) (kq (kc (zm rfl) (kc (zm rfl) (RK.c (S.callJ (((rec_record hok hv hS hJ).atJ hS)) hS Tryz.call177 .none rfl (zc rfl (zc rfl .nil)) rfl rfl) (kc (S.field1 (Tf:=221) ⟨_,_,Tryz.underlying223,rfl,rfl,rfl⟩ ti221 .none rfl (zt rfl) rfl rfl) (kc (S.call (rec_ctRow (l:=(recOf A.plan v.p.frames).rows)) Tryz.call234 .none rfl (zc rfl (.cons .cfn .nil)) rfl) (kc (S.notD .none rfl (zt rfl)) (kc (za rfl) (kD (OK.ret ⟨Ret.r1 (zo rfl rfl) ?_,rfl,trivial⟩)))))))))))
 refine ret_b ?_
 rw[←all_known]
 exact Bool.eq_iff_iff.2 (by simp)
theorem rec_find{A:HA}{m:Int}(hok:A.Ok m){n:Int}{J:Mem→(Nat→Prop)→World→Prop}(hS:Stable J)(hJ:∀h Y w,J h Y w→HeapJ A.mem h Y w):CtG Tryz.prog 86 [] [.raw (pV A.b),.int .i64 n] [(3000,.res J)] [(3000,.res J)] (.tup [.raw (optP A.pb (ix (fun v=>decide (v.p.num=n)) A.parts)),.int .i64 (findE n (ix (fun v=>decide (v.p.num=n)) A.parts).isSome)]):=by
 refine CtG.intro (rs:=[.tmp 4,.tmp 5]) Tryz.func86 rfl Tryz.ntmps86 Tryz.results86 rfl rfl rfl rfl fun w h=>?_
 refine kr (kc (S.assign .none rfl .craw) (kc (zi rfl rfl) (kq (kc (zm rfl) (kc (zm rfl) (RK.c (S.callJ (((rec_part hok hS hJ).atJ hS)) hS Tryz.call141 .none rfl (zc rfl (zc rfl .nil)) rfl rfl) (kc (za rfl) (kq (kc (zm rfl) (kc (zm rfl) (kc (S.call (rec_within) Tryz.call55 .none rfl (zc rfl (.cons (.cint rfl) (.cons (.cint rfl) .nil))) rfl) ?_)))))))))))
 refine kc (S.call (record_unless) Tryz.call58 .none rfl (zc rfl (.cons (.cint rfl) .nil)) rfl) (kc (zm rfl) (kc (S.pnen Tryz.underlying119 .none rfl (zt rfl)) (kc (S.call (record_unless) Tryz.call58 .none rfl (zc rfl (.cons (.cint rfl) .nil)) rfl) (RK.c (S.mkSlice (k:=17) (rows:=[[_],[_]]) ai184 .none rfl (zc rfl (zc rfl .nil)) rfl rfl rfl rfl rfl rfl rfl) (kc (S.callL (record_first (l:=[_,_])) Tryz.call57 .none rfl (zc rfl .nil) (.cons (.p (.own rfl rfl) rfl) .nil) rfl) (kc (za rfl) (kc (za rfl) (kD (OK.ret ⟨Ret.r2 (zo rfl rfl) (zo rfl rfl) ?_,rfl,trivial⟩)))))))))
 simp only[optS]
 rfl
theorem rec_numbers{A:HA}{m:Int}(hok:A.Ok m){J:Mem→(Nat→Prop)→World→Prop}(hS:Stable J)(hJ:∀h Y w,J h Y w→HeapJ A.mem h Y w){f:Nat}{caps:List X}(hcall:∀args w,(callFunc f args).run Tryz.prog w=.ok (.enter f args) w)(hc1:caps.all (okP [])=true)(hc2:caps.all (fun u=>!notCell u)=true){g:Part→Bool}(hf:∀(i:Nat)(v:PartA),A.parts[i]?=some v→CtG Tryz.prog f [] (.raw (pV v.b)::caps) [(3000,.res J)] [(3000,.res J)] (.bool (g v.p))):CtG Tryz.prog 53 [] [.raw (pV A.b),.fn f caps] [(3000,.res J)] [(3000,.res J)] (ints (numP g A.parts)):=by
 refine CtG.intro (rs:=[.tmp 4]) Tryz.func53 rfl Tryz.ntmps53 Tryz.results53 rfl rfl rfl rfl fun w h=>?_
 have hlp:=hok.lp
 have hm0:=hok.m0
 refine kr (kc (S.assign .none rfl .cnil) (kq (RK.c (S.nilOwn (k:=5) (sz:=1) .none rfl) (kD (kO (kr ?_))))))
 refine kc (zm rfl) (kc (zn rfl rfl) (kc (zr fi130_3 rfl) (kc (S.rload1 (u:=.sl (A.parts.map pRow)) ti128 .none rfl (zt rfl) rfl (ldJ hJ (HeapJ.ld1 (k:=.house) rfl rfl (.sl hok.ps)))) (kc (zk si128 rfl) (kc (S.move .none rfl (.cint rfl)) (kD (OK.block ?_)))))))
 refine OK.loop (G:=Nat) [5] (fun i=>[(0,.raw (pV A.b)),(1,.fn f caps),(5,.own 5 (numP g (A.parts.take i)).length),(2005,.arr 1 (intRows (numP g (A.parts.take i)))),(11,.sl (A.parts.map pRow)),(12,.int .i64 A.parts.length),(13,.int .i64 i),(3000,.res J)]) (fun i=>i≤A.parts.length) (fun i=>A.parts.length - i) 0 (Nat.zero_le _) ⟨rfl,rfl,(lk_own (by first|rfl|(simp;done)|(simp;omega))),(lk_arr (by first|rfl|(simp;done)|(simp;omega))),rfl,rfl,rfl,rfl,trivial⟩ (fun _=>congrArg (fun b=>b&&true) (caps_all (U:=[5]) hc1)) ?_
 rintro i hi
 refine kr (kc (S.lss .none rfl (zt rfl) (zt rfl)) (kD (kO (kB rfl (fun c14=>?_) (fun c14=>?_)))))
 ·
  have hil:i<A.parts.length:=by omega
  have hv:A.parts[i]?=some A.parts[i]:=List.getElem?_eq_getElem hil
  have hnl:=numP_len g (A.parts.take i)
  rw[List.length_take]at hnl
  refine OK.skip (Ab.D.code (kO (OK.block (kr (kc (S.indexM (n:=i) si128 .none rfl (zt rfl) (zt rfl) rfl (by omega) rfl) (kc (zV ti119 rfl rfl) (kc (za rfl) (kq (kc (zm rfl) (kc (zm rfl) (RK.c (S.callvJ (((hf i _ hv).atJ hS)) hS hcall .none rfl (zt rfl) (zc rfl .nil) rfl rfl hc1 hc2) ?_)))))))))))
  refine kD (OK.cond rfl rfl (fun c19=>?_) (fun c19=>?_))
  ·
   have hnx:=numP_T hil c19
   refine OK.reg (kc (zm rfl) (kc (zm rfl) (kc (zn rfl rfl) (kc (zr fi123_0 rfl) (kc (zr fi68_0 rfl) (kc (S.rload1 ti3 .none rfl (zt rfl) rfl (ldJ hJ (HeapJ.ld1 (k:=.p i) (HA.atP? hv) rfl (.same _)))) (RK.c (S.mkSlice (k:=26) (rows:=[[_]]) ai47 .none rfl (zc rfl .nil) rfl rfl rfl rfl rfl rfl rfl) ?_)))))))
   refine RK.c (S.append ai47 .none rfl (zt rfl) rfl (by simp[intRows]) (zt rfl) rfl (by first|rfl|(simp;done)|(simp;omega)) (by omega) (by simp only[maxLen];omega)) ?_
   refine kc (za rfl) (RK.nil (Ab.D.blk (Ab.D.code (OK.reg ?_))))
   refine kc (zp rfl rfl (by omega)) (kc (zm rfl) (RK.nil ?_))
   refine Ab.D.lp ⟨i+1,(by omega),(by omega),rfl,rfl,(lk_own (by first|(rw[hnx];simp;done)|rw[hnx])),(lk_arr (by first|(rw[hnx];simp[intRows];done)|rw[hnx])),rfl,rfl,rfl,rfl,trivial⟩
  ·
   have hnx:=numP_F hil (by simpa using c19)
   refine OK.skip (Ab.D.blk (Ab.D.code (OK.reg ?_)))
   refine kc (zp rfl rfl (by omega)) (kc (zm rfl) (RK.nil ?_))
   refine Ab.D.lp ⟨i+1,(by omega),(by omega),rfl,rfl,(lk_own (by first|(rw[hnx];simp;done)|rw[hnx])),(lk_arr (by first|(rw[hnx];simp[intRows];done)|rw[hnx])),rfl,rfl,rfl,rfl,trivial⟩
 ·
  refine OK.exit rfl (kp (kc (zm rfl) (kc (za rfl) (kD ?_))))
  refine OK.ret ⟨Ret.r1 (.tmp rfl rfl (.c (.own rfl rfl (by first|rfl|(simp;done)|(simp;omega))) rfl) rfl) ?_,rfl,trivial⟩
  rw[show i=A.parts.length by omega,List.take_length]
  all_goals rfl
end Go.Proofs.YtpbalelbenmmbaaGreatDoor
