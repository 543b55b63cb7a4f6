import Derived.Test.YtpbalelbenmmbaaGreatDoorHz
import Derived.Test.YtpbalelbenmmbaaGreatDoorFs
import Derived.Test.YtpbalelbenmmbaaGreatDoorGh
import Derived.Test.YtpbalelbenmmbaaGreatDoorHj
import Derived.Test.YtpbalelbenmmbaaGreatDoorRd
import Derived.Test.YtpbalelbenmmbaaGreatDoorRe
import Derived.Test.YtpbalelbenmmbaaGreatDoorSh
import Derived.Test.YtpbalelbenmmbaaGreatDoorTy
import Derived.Test.YtpbalelbenmmbaaGreatDoorWa
import Derived.Test.YtpbalelbenmmbaaGreatDoorWk
import Derived.Test.YtpbalelbenmmbaaGreatDoorWm
import Derived.Test.YtpbalelbenmmbaaGreatDoorYa
namespace Go.Proofs.YtpbalelbenmmbaaGreatDoor
open Go.Ab
section
variable{E:Env}{U:List Nat}{s:St}{code:Code}{Q:Exit→List Nat→St→Prop}{A:HA}{m:Int}
theorem HA.plain_coil{A:HA}{j:Nat}{v:CoilA}(h:A.coils[j]?=some v):A.plain.coils[j]?=some (v.c,v.entry):=by show(A.coils.map _)[j]?=_;rw[List.getElem?_map,h];rfl
theorem HA.plain_ver{A:HA}{j:Nat}{v:VerA}(h:A.vers[j]?=some v):A.plain.vers[j]?=some (v.r,v.entry):=by show(A.vers.map _)[j]?=_;rw[List.getElem?_map,h];rfl
structure HA.LikeC(A A1:HA)(H:House)(m:Int):Prop where
 ok:A1.Ok m
 b:A1.b=A.b
 plain:A1.plain=H
 vers:A1.vers=A.vers
 parts:A1.parts=A.parts
 entries:A1.entries=A.entries
theorem OK.coil1{j:Nat}{v:CoilA}(c':Coil)(hok:A.Ok m)(hv:A.coils[j]?=some v)(hl:Ab.look s 3000=some (.res (HeapJ (A.mem.set (.c j) (some (v.b,.box ({v with c:=c'}:CoilA).cs))))))(hc:0≤c'.shots∧c'.shots≤1000∧c'.life≤1000)
  (h:∀A1:HA,A.LikeC A1 {A.plain with coils:=A.plain.coils.modify j fun q=>(c',q.2)} m→A1.coils[j]?=some {v with c:=c'}→OK E code Q U ((3000,.res (HeapJ A1.mem))::s)) (hn:c'.name=v.c.name:=by rfl):OK E code Q U s:=by
 have hj:=lt_of_at hv
 have hvb:v.b=A.coils[j].b:=by rw[List.getElem?_eq_getElem hj]at hv;cases hv;rfl
 refine OK.resTo hl (HeapJ.stable (A.setC j {v with c:=c'}).mem) (fun h Y w hj'=>hj'.less (HA.setC_sub hj hvb)) (h _ ⟨?_,rfl,?_,rfl,rfl,rfl⟩ (set_at hv))
 ·refine⟨hok.vh,fun e=>?_,hok.ph,hok.mh,hok.fh,hok.eh,hok.m0,hok.en,hok.lv,?_,hok.lp,hok.lm,hok.lf,hok.le,hok.mi,fun x hx=>?_,hok.vb,hok.pl,hok.nl,hok.vn,fun x hx=>?_⟩
  ·show A.coils.set j _=[]
   rw[hok.ch e];rfl
  ·show((A.coils.set j _).length:Int)≤m
   rw[List.length_set];exact hok.lc
  ·rcases List.mem_or_eq_of_mem_set hx with hx|rfl
   ·exact hok.cl x hx
   ·exact hc
  ·rcases List.mem_or_eq_of_mem_set hx with hx|rfl
   ·exact hok.cn x hx
   ·show c'.name.length≤12
    rw[hn];exact hok.cn v (List.mem_of_getElem? hv)
 ·rw[modify_at (HA.plain_coil hv)]
  show House.mk _ _ _ ((A.coils.set j _).map _) _ _ _ _ _ _=House.mk _ _ _ ((A.coils.map _).set j _) _ _ _ _ _ _
  rw[List.map_set]
  rfl
theorem len_snoc{α:Type}(l:List α)(x:α):((l++[x]).length:Int)=l.length+1:=by rw[List.length_append,List.length_singleton];omega
theorem all_snoc{α:Type}{q:α→Prop}{l:List α}{x:α}(h:∀y∈l,q y)(hx:q x):∀y∈l++[x],q y:=fun y hy=>by
 rcases List.mem_append.1 hy with hy|hy
 ·exact h y hy
 ·rw[List.mem_singleton.1 hy];exact hx
theorem OK.newC{q:Nat×Nat×Nat}(c:Coil)(hok:A.Ok m)(hm:m+1≤1000)(hl:Ab.look s 3000=some (.res (HeapJ (((A.mem.set (.c A.coils.length) (some (q.1,.box (CoilA.mk q.1 c A.entries).cs))).set .cs (some (q.2.1,.gro 1 q.2.2 (A.coils.map cRow++[[.raw (pV q.1)]])))).set .house (some (A.b,.box (A.newC ⟨q.1,c,A.entries⟩ q.2).cs))))))
  (hc:0≤c.shots∧c.shots≤1000∧c.life≤1000) (hn:c.name.length≤12) (h:∀A1:HA,A1.Ok (m+1)→A1.b=A.b→A1.plain={A.plain with coils:=A.plain.coils++[(c,A.entries)]}→OK E code Q U ((3000,.res (HeapJ A1.mem))::s)):OK E code Q U s:=by
 have ho:=hok.more (m':=m+1) (by omega) hm
 refine OK.resTo hl (HeapJ.stable (A.newC ⟨q.1,c,A.entries⟩ q.2).mem) (fun h Y w hj'=>hj'.less HA.newC_sub) (h _ ?_ rfl ?_)
 ·exact⟨ho.vh,(fun e=>by cases e),ho.ph,ho.mh,ho.fh,ho.eh,ho.m0,ho.en,ho.lv,(by show((A.coils++[_]).length:Int)≤m+1;rw[len_snoc];have:=hok.lc;omega),ho.lp,ho.lm,ho.lf,ho.le,ho.mi,all_snoc (x:=CoilA.mk q.1 c A.entries) ho.cl hc,ho.vb,ho.pl,ho.nl,ho.vn,all_snoc (x:=CoilA.mk q.1 c A.entries) ho.cn hn⟩
 ·show House.mk _ _ _ ((A.coils++[_]).map _) _ _ _ _ _ _=House.mk _ _ _ ((A.coils.map _)++[_]) _ _ _ _ _ _
  rw[List.map_append];rfl
theorem OK.newV{q:Nat×Nat×Nat}(r:Rec)(hok:A.Ok m)(hm:m+1≤1000)(hl:Ab.look s 3000=some (.res (HeapJ (((A.mem.set (.v A.vers.length) (some (q.1,.box (VerA.mk q.1 r A.entries).cs))).set .vs (some (q.2.1,.gro 1 q.2.2 (A.vers.map vRow++[[.raw (pV q.1)]])))).set .house (some (A.b,.box (A.newV ⟨q.1,r,A.entries⟩ q.2).cs))))))
  (hr:0≤r.ver∧r.ver≤m+1) (hn:r.name.length≤12) (h:∀A1:HA,A1.Ok (m+1)→A1.b=A.b→A1.plain={A.plain with vers:=A.plain.vers++[(r,A.entries)]}→OK E code Q U ((3000,.res (HeapJ A1.mem))::s)):OK E code Q U s:=by
 have ho:=hok.more (m':=m+1) (by omega) hm
 refine OK.resTo hl (HeapJ.stable (A.newV ⟨q.1,r,A.entries⟩ q.2).mem) (fun h Y w hj'=>hj'.less HA.newV_sub) (h _ ?_ rfl ?_)
 ·exact⟨(fun e=>by cases e),ho.ch,ho.ph,ho.mh,ho.fh,ho.eh,ho.m0,ho.en,(by show((A.vers++[_]).length:Int)≤m+1;rw[len_snoc];have:=hok.lv;omega),ho.lc,ho.lp,ho.lm,ho.lf,ho.le,ho.mi,ho.cl,all_snoc (x:=VerA.mk q.1 r A.entries) ho.vb hr,ho.pl,ho.nl,all_snoc (x:=VerA.mk q.1 r A.entries) ho.vn hn,ho.cn⟩
 ·show House.mk _ _ ((A.vers++[_]).map _) _ _ _ _ _ _ _=House.mk _ _ ((A.vers.map _)++[_]) _ _ _ _ _ _ _
  rw[List.map_append];rfl
theorem OK.newM{q:Nat×Nat}{i:Nat}(hi:i<A.parts.length)(hok:A.Ok m)(hm:m+1≤1000)(hl:Ab.look s 3000=some (.res (HeapJ ((A.mem.set .ms (some (q.1,.gro 1 q.2 ((A.models.map fun i=>[.raw (pV (A.pb i))])++[[.raw (pV (A.pb i))]])))).set .house (some (A.b,.box (A.newM i q).cs))))))
  (h:∀A1:HA,A1.Ok (m+1)→A1.b=A.b→A1.pb=A.pb→A1.parts=A.parts→A1.plain={A.plain with models:=A.plain.models++[i]}→OK E code Q U ((3000,.res (HeapJ A1.mem))::s)):OK E code Q U s:=by
 have ho:=hok.more (m':=m+1) (by omega) hm
 refine OK.resTo hl (HeapJ.stable (A.newM i q).mem) (fun h Y w hj'=>hj'.less HA.newM_sub) (h _ ?_ rfl rfl rfl rfl)
 exact⟨ho.vh,ho.ch,ho.ph,(fun e=>by cases e),ho.fh,ho.eh,ho.m0,ho.en,ho.lv,ho.lc,ho.lp,(by show((A.models++[_]).length:Int)≤m+1;rw[len_snoc];have:=hok.lm;omega),ho.lf,ho.le,all_snoc ho.mi hi,ho.cl,ho.vb,ho.pl,ho.nl,ho.vn,ho.cn⟩
theorem OK.newP{q:(Nat×Nat)×Nat×Nat×Nat}(p:Part)(es:List Int)(hok:A.Ok m)(hm:m+1≤1000)(hl:Ab.look s 3000=some (.res (HeapJ ((((A.mem.set (.e A.parts.length) (some (q.1.1,.row 1 q.1.2 (intRows es)))).set (.p A.parts.length) (some (q.2.1,.box (PartA.mk q.2.1 none (some q.1) p es).cs))).set .ps (some (q.2.2.1,.gro 1 q.2.2.2 (A.parts.map pRow++[[.raw (pV q.2.1)]])))).set .house (some (A.b,.box (A.newP ⟨q.2.1,none,some q.1,p,es⟩ q.2.2).cs))))))
  (hf:p.frames=[]) (he:es.length=3) (hpl:0≤p.place∧p.place≤4) (hnl:p.rcp.length≤12∧p.coil.length≤12) (h:∀A1:HA,A1.Ok (m+1)→A1.b=A.b→A1.plain={A.plain with parts:=A.plain.parts++[(p,es)]}→OK E code Q U ((3000,.res (HeapJ A1.mem))::s)):OK E code Q U s:=by
 have ho:=hok.more (m':=m+1) (by omega) hm
 have h0:=hok.m0
 refine OK.resTo hl (HeapJ.stable (A.newP ⟨q.2.1,none,some q.1,p,es⟩ q.2.2).mem) (fun h Y w hj'=>hj'.less (HA.newP_sub hok rfl rfl)) (h _ ?_ rfl ?_)
 ·exact⟨ho.vh,ho.ch,(fun e=>by cases e),ho.mh,all_snoc (x:=PartA.mk q.2.1 none (some q.1) p es) ho.fh (fun _=>hf),all_snoc (x:=PartA.mk q.2.1 none (some q.1) p es) ho.eh (fun e=>by cases e),ho.m0,ho.en,ho.lv,ho.lc,(by show((A.parts++[_]).length:Int)≤m+1;rw[len_snoc];have:=hok.lp;omega),ho.lm,all_snoc (x:=PartA.mk q.2.1 none (some q.1) p es) ho.lf (by show(p.frames.length:Int)≤m+1;rw[hf];show(0:Int)≤m+1;omega),all_snoc (x:=PartA.mk q.2.1 none (some q.1) p es) ho.le (by show(es.length:Int)≤m+1+3;rw[he];omega),
   (fun i hi=>by show i<(A.parts++[_]).length;rw[List.length_append];have:=hok.mi i hi;omega),ho.cl,ho.vb,all_snoc (x:=PartA.mk q.2.1 none (some q.1) p es) ho.pl hpl,all_snoc (x:=PartA.mk q.2.1 none (some q.1) p es) ho.nl hnl,ho.vn,ho.cn⟩
 ·show House.mk _ _ _ _ ((A.parts++[_]).map _) _ _ _ _ _=House.mk _ _ _ _ ((A.parts.map _)++[_]) _ _ _ _ _
  rw[List.map_append];rfl
theorem OK.house1{A1:HA}(hok:A.Ok m)(hl:Ab.look s 3000=some (.res (HeapJ (A.mem.set .house (some (A.b,.box A1.cs))))))(hb:A1.b=A.b)(h1:A1.vh=A.vh∧A1.vers=A.vers)(h2:A1.ch=A.ch∧A1.coils=A.coils)(h3:A1.ph=A.ph∧A1.parts=A.parts)(h4:A1.mh=A.mh∧A1.models=A.models)(hen:0≤A1.entries∧A1.entries≤60)
  (h:A1.Ok m→OK E code Q U ((3000,.res (HeapJ A1.mem))::s)):OK E code Q U s:=by
 refine OK.resTo hl (HeapJ.stable A1.mem) (fun h Y w hj'=>hj'.less (HA.house_sub hb h1 h2 h3 h4)) (h ?_)
 obtain⟨b,net,plan,vh,vers,ch,coils,ph,parts,mh,models,env,learned,entries,time⟩:=A1
 obtain⟨rfl,rfl⟩:=h1
 obtain⟨rfl,rfl⟩:=h2
 obtain⟨rfl,rfl⟩:=h3
 obtain⟨rfl,rfl⟩:=h4
 exact⟨hok.vh,hok.ch,hok.ph,hok.mh,hok.fh,hok.eh,hok.m0,hen,hok.lv,hok.lc,hok.lp,hok.lm,hok.lf,hok.le,hok.mi,hok.cl,hok.vb,hok.pl,hok.nl,hok.vn,hok.cn⟩
end
theorem newC_cs(A:HA)(v:CoilA)(q:Nat×Nat):A.net.cs++A.plan.cs++[.raw (A.vh.v A.vers.length),.raw (.slice (some ⟨q.1,0,none⟩) ((A.coils.map cRow).length+1) q.2),.raw (A.ph.v A.parts.length),.raw (A.mh.v A.models.length),.int .i64 A.env.parts,.int .i64 A.env.trim,.sl (A.env.rows.map fun l=>[.sl (l.map Range.cs)]),.bool A.learned,.int .i64 A.entries,.int .i64 A.time]=(A.newC v q).cs:=by
 simp[HA.cs,HA.newC,Hd.v]
theorem newV_cs(A:HA)(v:VerA)(q:Nat×Nat):A.net.cs++A.plan.cs++[.raw (.slice (some ⟨q.1,0,none⟩) ((A.vers.map vRow).length+1) q.2),.raw (A.ch.v A.coils.length),.raw (A.ph.v A.parts.length),.raw (A.mh.v A.models.length),.int .i64 A.env.parts,.int .i64 A.env.trim,.sl (A.env.rows.map fun l=>[.sl (l.map Range.cs)]),.bool A.learned,.int .i64 A.entries,.int .i64 A.time]=(A.newV v q).cs:=by
 simp[HA.cs,HA.newV,Hd.v]
theorem newP_cs(A:HA)(v:PartA)(q:Nat×Nat):A.net.cs++A.plan.cs++[.raw (A.vh.v A.vers.length),.raw (A.ch.v A.coils.length),.raw (.slice (some ⟨q.1,0,none⟩) ((A.parts.map pRow).length+1) q.2),.raw (A.mh.v A.models.length),.int .i64 A.env.parts,.int .i64 A.env.trim,.sl (A.env.rows.map fun l=>[.sl (l.map Range.cs)]),.bool A.learned,.int .i64 A.entries,.int .i64 A.time]=(A.newP v q).cs:=by
 simp[HA.cs,HA.newP,Hd.v]
theorem newM_cs(A:HA)(i:Nat)(q:Nat×Nat):A.net.cs++A.plan.cs++[.raw (A.vh.v A.vers.length),.raw (A.ch.v A.coils.length),.raw (A.ph.v A.parts.length),.raw (.slice (some ⟨q.1,0,none⟩) ((A.models.map fun i=>[X.raw (pV (A.pb i))]).length+1) q.2),.int .i64 A.env.parts,.int .i64 A.env.trim,.sl (A.env.rows.map fun l=>[.sl (l.map Range.cs)]),.bool A.learned,.int .i64 A.entries,.int .i64 A.time]=(A.newM i q).cs:=by
 simp[HA.cs,HA.newM,Hd.v]
theorem nameOk_len{s:List UInt8}(h:nameOk s=true):s.length≤12:=by
 unfold nameOk at h
 rw[Bool.and_eq_true,decide_eq_true_eq]at h
 omega
theorem coil_name{a b c d:Bool}{e:Int}(h:firstE [unlessE a 4,unlessE b 5,unlessE c 2,unlessE d 16]=e)(he:e=0):a=true:=by
 rw[he]at h
 cases a<;>cases b<;>cases c<;>cases d<;>first|rfl|exact absurd h (by decide)
theorem coil_life{a b d:Bool}{n e:Int}(h:firstE [unlessE a 4,unlessE b 5,unlessE (decide (1≤n∧n≤1000)) 2,unlessE d 16]=e)(he:e=0):1≤n∧n≤1000:=by
 rw[he]at h
 by_cases hn:1≤n∧n≤1000
 ·exact hn
 ·exfalso
  rw[decide_eq_false hn]at h
  cases a<;>cases b<;>simp[firstE,unlessE]at h
theorem rec_about{A:HA}{m:Int}(hok:A.Ok m)(hm:m+2≤1000){n:Int}{tx:List (List UInt8)}{f:Nat}{caps:List X}(hcall:∀args w,(callFunc f args).run Tryz.prog w=.ok (.enter f args) w)(hc1:caps.all (okP [])=true)(hc2:caps.all (fun u=>!notCell u)=true){F:House→Nat→HE}(hf:∀i v,A.parts[i]?=some v→A.plain.pIx n=some i→CtGT Tryz.prog f [] (.raw (pV v.b)::caps) [(3000,.res (HeapJ A.mem))] [(3000,.res (JP A (F A.plain i).1 (m+1)))] (.int .i64 (F A.plain i).2))(hent:∀i,(F A.plain i).1.entries=A.entries):CtGT Tryz.prog 179 [] [.raw (pV A.b),.agg (Words.mk [n] tx).cs,.fn f caps] [(3000,.res (HeapJ A.mem))] [(3000,.res (JX A.b (aboutT A.plain n F).1 (m+2)))] (.int .i64 (aboutT A.plain n F).2):=by
 refine CtGT.intro (rs:=[.tmp 6]) Tryz.func179 rfl Tryz.ntmps179 Tryz.results179 rfl rfl rfl rfl fun w h hT=>?_
 refine kr (RK.c (zB (c:=4) rfl rfl) (kc (zi rfl rfl) (kq (kc (zm rfl) (kc (zf fi170_0 rfl) (kc (zl ti47 rfl rfl rfl rfl) (kc (S.indexM (n:=0) si47 .none rfl (zt rfl) (.cint rfl) rfl (by exact Nat.succ_pos _) rfl) (kc (zV ti3 rfl rfl) (kc (S.callR ((fun J hS hJ=>(rec_part hok (n:=n) hS hJ).atJ hS)) Tryz.call141 .none rfl (zc rfl (zc rfl .nil)) rfl rfl) ?_)))))))))
 refine kc (za rfl) (kD (kO (kr ?_)))
 refine kc (zm rfl) (kc (S.peqn Tryz.underlying119 .none rfl (zt rfl)) (kD (OK.cond rfl rfl (fun c16=>?_) (fun c16=>?_))))
 ·
  have hN:ix (fun v=>decide (v.p.num=n)) A.parts=none:=opt_none c16
  refine kr (kc (zi rfl rfl) (kD ?_))
  have hT:aboutT A.plain n F=(A.plain,6):=by unfold aboutT;rw[HA.pIx_plain,hN]
  refine OK.resTo (J':=JX A.b (aboutT A.plain n F).1 (m+2)) rfl (JX.stable _ _ _) (fun h Y w hj=>HA.jx hok (by omega) hm (by rw[hT]) hj) ?_
  refine OK.ret ⟨Ret.r1 (zo rfl rfl) ?_,rfl,trivial⟩
  rw[hT]
 ·
  obtain⟨i,hpi⟩:∃i,ix (fun v=>decide (v.p.num=n)) A.parts=some i:=opt_someF c16
  obtain⟨v,hv⟩:=at_of_lt (ix_some hpi).1
  rw[optP_at hpi (HA.pb? hv)]
  refine OK.skip (Ab.D.code (kO ?_))
  have hpx:A.plain.pIx n=some i:=by rw[HA.pIx_plain];exact hpi
  refine OK.reg (kc (zm rfl) (kc (zm rfl) (RK.c (S.callvJ (((hf i v hv hpx).atJ hT (HeapJ.stable _))) (JP.stable _ _ _) hcall .none rfl (zt rfl) (zc rfl .nil) rfl rfl hc1 hc2) (kc (za rfl) (kD (kO (kr ?_)))))))
  refine kc (zm rfl) (kc (zE rfl rfl) (kD (kB rfl (fun c21=>?_) (fun c21=>?_))))
  ·
   refine OK.resJP rfl fun A1 hok1 hb1 hpb1 hlen1 hpl1=>?_
   obtain⟨v1,hv1⟩:=at_of_lt (l:=A1.parts) (i:=i) (by rw[hlen1];exact lt_of_at hv)
   have hvb1:v1.b=v.b:=by rw[←HA.pb? hv1,hpb1,HA.pb? hv]
   rw[←hvb1,←hb1]
   have he1:A1.entries=A.entries:=(congrArg House.entries hpl1).trans (hent i)
   refine OK.regionDrawX2 follows (ι:=(Nat×Nat)) (0,0) (x:=10) (fun q=>(.cs (zm rfl) (.cs (zm rfl) (.cs (zn rfl rfl) (.cs (zr fi123_1 rfl) (.cs (S.rload1 ti47 .none rfl (zt rfl) rfl (HeapJ.ld1 (k:=.p i) (HA.atP? hv1) rfl (.same _))) (.cs (zm rfl) (.cs (zn rfl rfl) (.cs (zr fi130_7 rfl) (.cs (S.rload1 ti3 .none rfl (zt rfl) rfl (HeapJ.ld1 (k:=.house) rfl rfl (.same _))) (.cs (S.mkSlice (k:=31) (rows:=[[_]]) ai47 .none rfl (zc rfl .nil) rfl rfl rfl rfl rfl rfl rfl)
    (.x (rd:=[(26,.raw (v1.eh.v v1.es.length)),(31,.own 31 1),(2031,.arr 1 [[.int .i64 A1.entries]]),(3000,.res (HeapJ A1.mem))]) (wr:=((32,.raw (.slice (some ⟨q.1,0,none⟩) ((intRows v1.es).length+1) q.2))::(3000,.res (HeapJ (A1.mem.set (.e i) (some (q.1,.row 1 q.2 (intRows v1.es++[[X.int .i64 A1.entries]]))))))::[])) (al:=[]) ⟨rfl,rfl,rfl,rfl,trivial⟩ (.cn (zn rfl rfl) (.cn (zr fi123_1 rfl) (.cn (S.hstore (xs:=v1.cs) (xs':=({v1 with eh:=some q,es:=v1.es++[A1.entries]}:PartA).cs) (.p i) ti47 .none (zt rfl) (zt rfl) rfl ((HM.set_other _ _ (fun h=>by cases h)).trans (HA.atP? hv1)) rfl rfl rfl rfl (partE_cs v1 q _)) .nil))))))))))))))) (S.happR (s:=[(26,.raw (v1.eh.v v1.es.length)),(31,.own 31 1),(2031,.arr 1 [[.int .i64 A1.entries]]),(3000,.res (HeapJ A1.mem))]) (m:=1) (rows2:=[[.int .i64 A1.entries]]) (.e i) ai47 rfl (zt rfl) (hok1.es? hv1) (zt rfl) rfl rfl rfl (by decide) (by simp only[intRows,List.length_map];have:=hok1.le _ (List.mem_of_getElem? hv1);have:=hok1.m0;omega) (by simp only[intRows,List.length_map,maxLen];have:=hok1.le _ (List.mem_of_getElem? hv1);have:=hok1.m0;omega)).st (fun _=>by kernel_rfl) (fun q q' j h1 h2 h3=>by
     have h4:j<14:=h2
     rcases(show j=0∨j=1∨j=2∨j=3∨j=4∨j=5∨j=6∨j=7∨j=8∨j=9∨j=11∨j=12∨j=13 by omega)with rfl|rfl|rfl|rfl|rfl|rfl|rfl|rfl|rfl|rfl|rfl|rfl|rfl<;>first|rfl|exact Bool.noConfusion ((show _=true by kernel_rfl).symm.trans h3)) (fun _=>rfl) rfl (fun q=>?_)
   refine Ab.D.code (kO (OK.partE q _ hok1 (by omega) hv1 rfl rfl fun A2 hL=>?_))
   refine OK.reg (kc (zm rfl) (kc (za rfl) (kD ?_)))
   have hT:aboutT A.plain n F=((F A.plain i).1.addE i,0):=by unfold aboutT;rw[hpx];dsimp only;rw[if_pos c21]
   refine OK.resTo (J':=JX A1.b (aboutT A.plain n F).1 (m+2)) rfl (JX.stable _ _ _) (fun h Y w hj=>jx_of hL.ok (by omega) hm hL.b (by rw[hL.plain,hpl1,hT]) hj) ?_
   refine OK.ret ⟨Ret.r1 (zo rfl rfl) ?_,rfl,trivial⟩
   rw[hT,c21]
  ·
   refine OK.skip (kp (kc (zm rfl) (kc (za rfl) (kD ?_))))
   have hT:aboutT A.plain n F=F A.plain i:=by unfold aboutT;rw[hpx];dsimp only;rw[if_neg c21]
   refine OK.resTo (J':=JX A.b (aboutT A.plain n F).1 (m+2)) rfl (JX.stable _ _ _) (fun h Y w hj=>hj.elim fun A1 h1=>jx_of h1.1.1 (by omega) hm h1.1.2.1 (by rw[hT];exact h1.1.2.2.2.2) h1.2) ?_
   refine OK.ret ⟨Ret.r1 (zo rfl rfl) ?_,rfl,trivial⟩
   rw[hT]
theorem rec_good1{A:HA}{m:Int}(hok:A.Ok m)(hm:m+2≤1000){i:Nat}{v:PartA}(hv:A.parts[i]?=some v):CtG Tryz.prog 180 [] [.raw (pV v.b)] [(3000,.res (HeapJ A.mem))] [(3000,.res (JP A (goodT A.plain i).1 (m+1)))] (.int .i64 (goodT A.plain i).2):=by
 refine CtG.intro (rs:=[.tmp 2]) Tryz.func180 rfl Tryz.ntmps180 Tryz.results180 rfl rfl rfl rfl fun w h=>?_
 have hp:=HA.p_at hv
 refine kr (kc (zi rfl rfl) (kD (kO (kr ?_))))
 refine kc (zm rfl) (kc (S.callR ((fun J hS hJ=>(rec_mayLeave hv hS hJ).atJ hS)) Tryz.call50 .none rfl (zc rfl .nil) rfl rfl) ?_)
 refine kc (S.not .none rfl (zt rfl)) (kD (OK.cond rfl rfl (fun c5=>?_) (fun c5=>?_)))
 ·
  refine kr (kc (zi rfl rfl) (kD ?_))
  have hT:goodT A.plain i=(A.plain,24):=by unfold goodT;rw[hp,if_neg (by simpa using c5)]
  refine OK.resTo (J':=JP A (goodT A.plain i).1 (m+1)) rfl (JP.stable _ _ _) (fun h Y w hj=>HA.jp hok (by omega) (by omega) (by rw[hT]) hj) ?_
  refine OK.ret ⟨Ret.r1 (zo rfl rfl) ?_,rfl,trivial⟩
  rw[hT]
 ·
  refine OK.skip (kp (kc (zm rfl) (kc (zn rfl rfl) (kc (zr fi123_0 rfl) (kc (zr fi68_4 rfl) (kc (S.hstore (xs':=({v with p:={v.p with place:=2}}:PartA).cs) (.p i) ti3 .none (zt rfl) (.cint rfl) rfl (HA.atP? hv) rfl rfl rfl rfl rfl) (kD (kO ?_))))))))
  refine OK.part1 {v.p with place:=2} hok hv rfl rfl (by dsimp only;decide) fun A1 hL=>?_
  refine OK.reg (kc (zi rfl rfl) (kD ?_))
  have hT:goodT A.plain i=(A.plain.setP i fun p=>{p with place:=2},0):=by unfold goodT;rw[hp,if_pos (by simpa using c5)]
  refine OK.resTo (J':=JP A (goodT A.plain i).1 (m+1)) rfl (JP.stable _ _ _) (fun h Y w hj=>hL.jp (by omega) (by omega) (by rw[hT];exact House.setP_at (HA.plain_part hv) fun p=>{p with place:=2}) hj) ?_
  refine OK.ret ⟨Ret.r1 (zo rfl rfl) ?_,rfl,trivial⟩
  rw[hT]
theorem goodT_ent(A:HA)(i:Nat):(goodT A.plain i).1.entries=A.entries:=by unfold goodT;split<;>rfl
theorem rec_good{A:HA}{m:Int}(hok:A.Ok m)(hm:m+2≤1000){n:Int}:CtGT Tryz.prog 115 [] [.raw (pV A.b),.agg (Words.mk [n] []).cs] [(3000,.res (HeapJ A.mem))] [(3000,.res (JX A.b (aboutT A.plain n goodT).1 (m+2)))] (.int .i64 (aboutT A.plain n goodT).2):=by
 refine CtGT.intro (rs:=[.tmp 4]) Tryz.func115 rfl Tryz.ntmps115 Tryz.results115 rfl rfl rfl rfl fun w h hT=>?_
 refine kr (RK.c (zB (c:=3) rfl rfl) (kc (zi rfl rfl) (kq (kc (zm rfl) (kc (zL ti170 rfl rfl rfl rfl) (RK.c (S.callJ (((rec_about hok hm (n:=n) (tx:=[]) (f:=180) (caps:=[]) Tryz.call180 rfl rfl (F:=goodT) (fun i v hv _=>(rec_good1 hok hm hv).toT) (fun i=>goodT_ent A i)).atJ hT (HeapJ.stable _))) (JX.stable _ _ _) Tryz.call179 .none rfl (zc rfl (zc rfl (.cons .cfn .nil))) rfl rfl) ?_))))))
 refine kc (za rfl) (kD (OK.ret ⟨Ret.r1 (zo rfl rfl) ?_,rfl,trivial⟩))
 rfl
theorem rec_newCoil{A:HA}{m:Int}(hok:A.Ok m)(hm:m+2≤1000){n:Int}{t:List UInt8}:CtG Tryz.prog 117 [] [.raw (pV A.b),.agg (Words.mk [n] [t]).cs] [(3000,.res (HeapJ A.mem))] [(3000,.res (JX A.b (coilT A.plain t n).1 (m+2)))] (.int .i64 (coilT A.plain t n).2):=by
 refine CtG.intro (rs:=[.tmp 4]) Tryz.func117 rfl Tryz.ntmps117 Tryz.results117 rfl rfl rfl rfl fun w h=>?_
 have hen:=hok.en
 have hlc:=hok.lc
 have hm0:=hok.m0
 have hci:=HA.cIx_plain A t
 have hpl:(A.plain.coils.length:Int)=A.coils.length:=by show((A.coils.map _).length:Int)=_;rw[List.length_map]
 obtain⟨e,he⟩:∃e,firstE [unlessE (nameOk t) 4,unlessE (A.plain.cIx t).isNone 5,unlessE (decide (1≤n∧n≤1000)) 2,unlessE (decide ((A.plain.coils.length:Int)<4)) 16]=e:=⟨_,rfl⟩
 have hTn:coilT A.plain t n=if e=0 then({A.plain with coils:=A.plain.coils++[(⟨t,n,0⟩,A.entries)]},0)else(A.plain,e):=by unfold coilT;dsimp only;rw[he];rfl
 rw[hci,hpl]at he
 rw[hTn]
 refine kr (RK.c (zB (c:=3) rfl rfl) (kc (zi rfl rfl) (kD (kO (OK.regionDraw follows (.c (zf fi170_1 rfl) (.c (zl ti103 rfl rfl rfl rfl) (.c (S.indexM (n:=0) si103 .none rfl (zt rfl) (.cint rfl) rfl (by exact Nat.succ_pos _) rfl) (.c (zV ti9 rfl rfl) (.c (zf fi170_0 rfl) (.c (zl ti47 rfl rfl rfl rfl) (.c (S.indexM (n:=0) si47 .none rfl (zt rfl) (.cint rfl) rfl (by exact Nat.succ_pos _) rfl) (.c (zV ti3 rfl rfl) (.c (za rfl) (.c (za rfl) .nil)))))))))) (by kernel_rfl) ?_)))))
 refine Ab.D.code (kO (OK.regionDraw follows (.c (zm rfl) (.c (S.call (rec_isName) Tryz.call65 .none rfl (zc rfl .nil) rfl) (.c (S.call (record_unless) Tryz.call58 .none rfl (zc rfl (.cons (.cint rfl) .nil)) rfl) (.c (zm rfl) (.c (zm rfl) (.c (S.callR ((fun J hS hJ=>(rec_coil hok (n:=t) hS hJ).atJ hS)) Tryz.call99 .none rfl (zc rfl (zc rfl .nil)) rfl rfl) (.c (S.peqn Tryz.underlying196 .none rfl (zt rfl)) (.c (S.call (record_unless) Tryz.call58 .none rfl (zc rfl (.cons (.cint rfl) .nil)) rfl) (.c (zm rfl) (.c (S.call (rec_within) Tryz.call55 .none rfl (zc rfl (.cons (.cint rfl) (.cons (.cint rfl) .nil))) rfl) (.c (S.call (record_unless) Tryz.call58 .none rfl (zc rfl (.cons (.cint rfl) .nil)) rfl) (.c (zm rfl) (.c (zn rfl rfl) (.c (zr fi130_2 rfl) (.c (S.rload1 (u:=.sl (A.coils.map cRow)) ti127 .none rfl (zt rfl) rfl (HeapJ.ld1 (k:=.house) rfl rfl (.sl hok.cs))) (.c (zk si127 rfl) (.c (S.lss .none rfl (zt rfl) (.cint rfl)) (.c (S.call (record_unless) Tryz.call58 .none rfl (zc rfl (.cons (.cint rfl) .nil)) rfl) (.c (S.mkSlice (k:=34) (rows:=[[_],[_],[_],[_]]) ai184 .none rfl (zc rfl (zc rfl (zc rfl (zc rfl .nil)))) rfl rfl rfl rfl rfl rfl rfl) (.c (S.callL (record_first (l:=[_,_,_,_])) Tryz.call57 .none rfl (zc rfl .nil) (.cons (.p (.own rfl rfl) rfl) .nil) rfl) (.c (za rfl) .nil))))))))))))))))))))) (by kernel_rfl) ?_))
 refine Ab.D.code (kO (kr ?_))
 refine kc (zm rfl) (kc (zE rfl rfl) (kD (kB rfl (fun c37=>?_) (fun c37=>?_))))
 ·
  have hEe:e=0:=by rw[←he];simpa only[optN,List.getElem_cons_zero]using c37
  refine OK.regionDrawX2 follows (ι:=(Nat×Nat×Nat)) (0,0,0) (x:=15) (fun q=>(.cs (zm rfl) (.cs (zm rfl) (.cs (zn rfl rfl) (.cs (zr fi130_2 rfl) (.cs (S.rload1 ti127 .none rfl (zt rfl) rfl (HeapJ.ld1 (k:=.house) rfl rfl (.same _))) (.cs (zm rfl) (.cs (zm rfl) (.cs (S.build bu199 rfl .none rfl (zc rfl (zc rfl .nil)) rfl rfl) (.cs (zm rfl) (.cs (zn rfl rfl) (.cs (zr fi130_7 rfl) (.cs (S.rload1 ti3 .none rfl (zt rfl) rfl (HeapJ.ld1 (k:=.house) rfl rfl (.same _))) (.cs (S.build bu201 rfl .none rfl (zc rfl (zc rfl .nil)) rfl rfl) (.cs (S.boxA (k:=51) rfl .none rfl (zt rfl) rfl) (.cs (S.mkSliceP (k:=52) ai127 .none rfl (zt rfl) rfl)
   (.x (rd:=[(42,.raw (A.ch.v A.coils.length)),(52,.own 52 1),(2052,.arrn 1 [] [.optr 51 1 0] []),(2051,.arrn 4 [] [.str t,.int .i64 n,.int .i64 0,.int .i64 A.entries] []),(3000,.res (HeapJ A.mem))]) (wr:=((53,.raw (.slice (some ⟨q.2.1,0,none⟩) ((A.coils.map cRow).length+1) q.2.2))::(3000,.res (HeapJ ((A.mem.set (.c A.coils.length) (some (q.1,.box [.str t,.int .i64 n,.int .i64 0,.int .i64 A.entries]))).set .cs (some (q.2.1,.gro 1 q.2.2 (A.coils.map cRow++[[X.raw (pV q.1)]]))))))::(2051,.any)::[])) (al:=[]) ⟨rfl,rfl,rfl,rfl,rfl,trivial⟩ (.cn (zn rfl rfl) (.cn (zr fi130_2 rfl) (.cn (S.hstore (xs:=A.cs) (xs':=(A.newC ⟨q.1,⟨t,n,0⟩,A.entries⟩ q.2).cs) (.house) ti127 .none (zt rfl) (zt rfl) rfl ((HM.set_other _ _ (fun h=>by cases h)).trans ((HM.set_other _ _ (fun h=>by cases h)).trans A.atH)) rfl rfl rfl rfl (newC_cs A ⟨q.1,⟨t,n,0⟩,A.entries⟩ q.2)) .nil)))))))))))))))))))) (S.happB (s:=[(42,.raw (A.ch.v A.coils.length)),(52,.own 52 1),(2052,.arrn 1 [] [.optr 51 1 0] []),(2051,.arrn 4 [] [.str t,.int .i64 n,.int .i64 0,.int .i64 A.entries] []),(3000,.res (HeapJ A.mem))]) (cells':=[.str t,.int .i64 n,.int .i64 0,.int .i64 A.entries]) .cs (.c A.coils.length) ai127 rfl (zt rfl) hok.cs (fun h=>by cases h) (zt rfl) rfl rfl rfl rfl rfl rfl (by simp only[List.length_map];omega) (by simp only[List.length_map,maxLen];omega)).st (fun _=>by kernel_rfl) (fun q q' j h1 h2 h3=>by
    have h4:j<19:=h2
    rcases(show j=0∨j=1∨j=2∨j=3∨j=4∨j=5∨j=6∨j=7∨j=8∨j=9∨j=10∨j=11∨j=12∨j=13∨j=14∨j=16∨j=17∨j=18 by omega)with rfl|rfl|rfl|rfl|rfl|rfl|rfl|rfl|rfl|rfl|rfl|rfl|rfl|rfl|rfl|rfl|rfl|rfl<;>first|rfl|exact Bool.noConfusion ((show _=true by kernel_rfl).symm.trans h3)) (fun _=>rfl) rfl (fun q=>?_)
  refine Ab.D.code (kO ?_)
  refine OK.newC ⟨t,n,0⟩ hok (by omega) rfl (by have:=coil_life he hEe;dsimp only;omega) (nameOk_len (coil_name he hEe)) fun A1 hok1 hb1 hpl1=>?_
  refine OK.reg (kc (zm rfl) (kc (za rfl) (kD ?_)))
  refine OK.resTo (J':=JX A.b (if e=0 then({A.plain with coils:=A.plain.coils++[(⟨t,n,0⟩,A.entries)]},0)else(A.plain,e)).1 (m+2)) rfl (JX.stable _ _ _) (fun h Y w hj=>jx_of hok1 (by omega) hm hb1 (by rw[if_pos hEe];exact hpl1) hj) ?_
  refine OK.ret ⟨Ret.r1 (zo rfl rfl) ?_,rfl,trivial⟩
  rw[if_pos hEe]
  simp only[optN,List.getElem_cons_zero,he,hEe]
 ·
  have hEe:¬e=0:=by rw[←he];simpa only[optN,List.getElem_cons_zero]using c37
  refine OK.skip (kp (kc (zm rfl) (kc (za rfl) (kD (OK.resTo (J':=JX A.b (if e=0 then({A.plain with coils:=A.plain.coils++[(⟨t,n,0⟩,A.entries)]},0)else(A.plain,e)).1 (m+2)) rfl (JX.stable _ _ _) (fun h Y w hj=>HA.jx hok (by omega) hm (by rw[if_neg hEe]) hj) ?_)))))
  refine OK.ret ⟨Ret.r1 (zo rfl rfl) ?_,rfl,trivial⟩
  rw[if_neg hEe]
  simp only[optN,List.getElem_cons_zero,he]
end Go.Proofs.YtpbalelbenmmbaaGreatDoor
namespace Go.Proofs.YtpbalelbenmmbaaGreatDoor
open Go.Ab
theorem idx_ixGo{α:Type}(g:α→Bool):∀(l:List α)(i:Nat),idxGo g i l=match ixGo g i l with|some j=>(j:Int)|none=> -1
 |[],_=>rfl
 |x::l,i=>by
  rw[idxGo,ixGo]
  split
  ·rfl
  ·exact idx_ixGo g l (i+1)
theorem idx_ix{α:Type}(g:α→Bool)(l:List α):idxGo g 0 l=match ix g l with|some j=>(j:Int)|none=> -1:=idx_ixGo g l 0
def House.st(H:House):State:=⟨H.vers.map (·.1),H.coils.map (·.1),H.parts.map (·.1),H.models.map fun i=>(H.p i).num,H.env⟩
end Go.Proofs.YtpbalelbenmmbaaGreatDoor
namespace Go.Proofs.YtpbalelbenmmbaaGreatDoor
open Go.Ab
def State.pIx(s:State)(n:Int):Option Nat:=ix (fun p=>decide (p.num=n)) s.parts
def State.cIx(s:State)(n:List UInt8):Option Nat:=ix (fun c=>decide (c.name=n)) s.coils
def State.uIx(s:State):Option Nat:=ix (fun p=>decide (p.place=0)) s.parts
def State.ver(s:State)(n:List UInt8):Int:=((s.recipes.filter fun r=>decide (r.name=n)).length:Int)
def State.p(s:State)(i:Nat):Part:=(s.parts[i]?).getD ⟨0,[],0,[],[],0,false,0,false,Span.zero⟩
def State.setP(s:State)(i:Nat)(f:Part→Part):State:={s with parts:=s.parts.modify i f}
def State.busy(s:State)(name:List UInt8):Bool:=match s.uIx with
 |some i=>decide ((s.p i).coil=name)
 |none=>false
end Go.Proofs.YtpbalelbenmmbaaGreatDoor
namespace Go.Proofs.YtpbalelbenmmbaaGreatDoor
open Go.Ab
def before(l:List Int)(x:Int)(i k:Nat):Nat:=(l.take k).countP (fun y=>decide (y<x))+((l.take k).take i).countP fun y=>decide (y=x)
structure LearnedX where
 records:List Record
 trim:Int
def LearnedX.cs(x:LearnedX):List X:=[.sl (x.records.map Record.cs),.int .i64 x.trim]
end Go.Proofs.YtpbalelbenmmbaaGreatDoor
namespace Go.Proofs.YtpbalelbenmmbaaGreatDoor
open Go.Ab
theorem dv_none{L:List Deviation}{q:Bool}(h:iterG (Ab.stepG (fun(_:Bool)(_:Deviation)=>(true,some Code.ret))) (false,none) L=((q,none),true)):L=[]∧q=false:=by
 cases L with
 |nil=>simp only[iterG,Prod.mk.injEq]at h;exact⟨rfl,h.1.1.symm⟩
 |cons d L=>simp[iterG,Ab.stepG]at h
theorem dv_some{L:List Deviation}{q:Bool}{cd:Code}(h:(iterG (Ab.stepG (fun(_:Bool)(_:Deviation)=>(true,some Code.ret))) (false,none) L).1=(q,some cd)):L≠[]∧q=true∧cd=.ret:=by
 cases L with
 |nil=>simp[iterG]at h
 |cons d L=>
  simp[iterG,Ab.stepG]at h
  exact⟨by simp,h.1,h.2.symm⟩
def verdT(x:Envelope)(r:Record):Int:=if(devT x r).length≠0 then 2 else if(lostT r).length≠0 then 1 else 0
theorem mon_deviates{x:Envelope}{r:Record}(hf:FitT x r)(hrl:r.rows.length≤100000)(hvl:∀(i:Nat)(h:i<r.rows.length),r.rows[i].values.length≤100000):Ct Tryz.prog 231 [.agg x.cs,.agg r.cs] (.bool (decide ((devT x r).length≠0))):=by
 refine Ct.intro (rs:=[.cell 4 4]) Tryz.func231 rfl Tryz.ntmps231 Tryz.results231 rfl rfl rfl fun w h=>?_
 refine kr (RK.c (zB (c:=2) rfl rfl) (RK.c (zB (c:=3) rfl rfl) (RK.c (zA (c:=4) ze4 rfl) (kD (kO (kr ?_))))))
 refine kc (zL ti50 rfl rfl rfl rfl) (kc (zL ti223 rfl rfl rfl rfl) (kc (S.call (mon_deviations) Tryz.call279 .none rfl (zc rfl (zc rfl .nil)) rfl) (kD (OK.block (OK.rangeFunc (ps:=[8]) (encs:=(fun d=>[.agg (Deviation.cs d)])) (L:=(devT x r)) [4] [(4,.ptr 4 0)] (fun q=>[(1004,.box [.bool q])]) false (fun(_:Bool)(_:Deviation)=>(true,some Code.ret)) ((fun J g s0 Φ hst hcb=>mon_devs1 hf hrl hvl J g s0 Φ hst hcb)) Tryz.call327 (.inl rfl) (zt rfl) rfl rfl ⟨rfl,rfl,trivial⟩ (fun _=>rfl) (fun _=>rfl) (fun _=>rfl) (fun _=>rfl) (fun _=>rfl) (by decide) rfl ?_ ?_ ?_)))))
 ·rintro i x q hx hq lr c0 w0 p1 p2 hR1 hR2
  refine OK.skipQ ?_
  refine⟨rfl,?_⟩
  refine OK.block (kr (kc (S.store ti4 .none (zt rfl) .cbool rfl rfl rfl rfl rfl rfl) (kD (OK.ret ?_))))
  exact⟨rfl,rfl,trivial⟩
 ·rintro q hq
  obtain⟨hL,hq0⟩:=dv_none hq
  subst hq0
  refine Ab.D.blk (kp (kc (S.store ti4 .none (zt rfl) .cbool rfl rfl rfl rfl rfl rfl) (kD (OK.ret (Ret.r1 (.cell1 rfl rfl rfl rfl ti4 (.same rfl) rfl) ?_)))))
  rw[hL]
  rfl
 ·rintro q cd hq
  obtain⟨hL,hq1,hcd⟩:=dv_some hq
  subst hq1
  subst hcd
  refine OK.ret (Ret.r1 (.cell1 rfl rfl rfl rfl ti4 (.same rfl) rfl) ?_)
  rw[decide_eq_true (by simpa using hL)]
theorem mon_VerdictOf{p:Plan}{x:Envelope}{r:Record}:Ct Tryz.prog 176 [.agg p.cs,.agg x.cs,.agg r.cs] (.tup [.int .i64 (if bothErr p x r=0 then verdT x r else 0),.int .i64 (bothErr p x r)]):=by
 refine Ct.intro (rs:=[.tmp 6,.tmp 7]) Tryz.func176 rfl Tryz.ntmps176 Tryz.results176 rfl rfl rfl fun w h=>?_
 refine kr (RK.c (zB (c:=3) rfl rfl) (RK.c (zB (c:=4) rfl rfl) (RK.c (zB (c:=5) rfl rfl) (kc (zi rfl rfl) (kc (zi rfl rfl) (kD (kO (kr ?_))))))))
 refine kc (zL ti105 rfl rfl rfl rfl) (kc (zL ti50 rfl rfl rfl rfl) (kc (zL ti223 rfl rfl rfl rfl) (kc (S.call (mon_openBoth) Tryz.call230 .none rfl (zc rfl (zc rfl (zc rfl .nil))) rfl) (kc (za rfl) (kq (kc (zm rfl) (kc (zN rfl rfl) (kD (kB rfl (fun c14=>?_) (fun c14=>?_))))))))))
 ·
  refine kr (kc (zm rfl) (kc (zi rfl rfl) (kc (za rfl) (kD (OK.ret (Ret.r2 (zo rfl rfl) (zo rfl rfl) ?_))))))
  rw[if_neg (show¬bothErr p x r=0 from c14)]
 ·
  have he:bothErr p x r=0:=by omega
  have hb:=both_of he
  have hbr:=hb.rows
  refine OK.skip (Ab.D.code (kO (OK.block (kr (kc (zL ti50 rfl rfl rfl rfl) (kc (zL ti223 rfl rfl rfl rfl) ?_))))))
  refine kc (S.call (mon_deviates hb.fit (by omega) (fun i h=>by have:=hb.vals i h;omega)) Tryz.call231 .none rfl (zc rfl (zc rfl .nil)) rfl) ?_
  refine kc (za rfl) (kD (OK.cond rfl rfl (fun c16=>?_) (fun c16=>?_)))
  ·
   refine kr (kc (zi rfl rfl) (kc (zi rfl rfl) (kD (OK.ret (Ret.r2 (zo rfl rfl) (zo rfl rfl) ?_)))))
   rw[if_pos he,he,verdT,if_pos (of_decide_eq_true c16)]
  ·
   refine kr (kc (zL ti223 rfl rfl rfl rfl) (kc (S.call (mon_lost (by omega)) Tryz.call232 .none rfl (zc rfl .nil) rfl) (kc (zk si47 rfl) (kc (S.gtr .none rfl (zt rfl) (.cint rfl)) (kc (za rfl) (kD (kB rfl (fun c20=>?_) (fun c20=>?_))))))))
   ·
    refine kr (kc (zi rfl rfl) (kc (zi rfl rfl) (kD (OK.ret (Ret.r2 (zo rfl rfl) (zo rfl rfl) ?_)))))
    rw[if_pos he,he,verdT,if_neg (of_decide_eq_false c16),if_pos (by omega)]
   ·
    refine OK.skip (Ab.D.blk (kp (kc (zi rfl rfl) (kc (zi rfl rfl) (kD (OK.ret (Ret.r2 (zo rfl rfl) (zo rfl rfl) ?_)))))))
    rw[if_pos he,he,verdT,if_neg (of_decide_eq_false c16),if_neg (by omega)]
end Go.Proofs.YtpbalelbenmmbaaGreatDoor
namespace Go.Proofs.YtpbalelbenmmbaaGreatDoor
open Go.Ab
def wholeP(plan:Plan)(p:Part):Bool:=(recOf plan p.frames).rows.all fun r=>r.known
def modelT(H:House)(i:Nat):HE:=
 let e:=firstE [unlessE (decide ((H.p i).place≠0)) 20,unlessE (wholeP H.plan (H.p i)) 14,unlessE (!H.models.contains i) 23]
 if e=0 then({H with models:=H.models++[i]},0)else(H,e)
def endF(plan:Plan)(env:Envelope)(learned:Bool)(p:Part):Part:={p with place:=1,judged:=learned,verdict:=if learned=true then(if bothErr plan env (recOf plan p.frames)=0 then verdT env (recOf plan p.frames)else 0)else if wholeP plan p=true then p.verdict else 1}
def endT(H:House):HE:=match H.uIx with
 |none=>(H,12)
 |some i=>((H.setP i (endF H.plan H.env H.learned)).addE i,0)
def frameT(H:House)(f:Frame)(e0:Int):HE:=match H.uIx with
 |none=>(H,12)
 |some i=>if e0≠0 then(H,e0)else if frameE H.plan f≠0 then(H,frameE H.plan f)
  else match(H.p i).frames.find? (fun g=>decide (g.tick=f.tick))with
   |none=>((H.setP i fun p=>{p with frames:=p.frames++[f]}).addE i,0)
   |some g=>if g.values=f.values then(H.addE i,0)else(H,13)
end Go.Proofs.YtpbalelbenmmbaaGreatDoor
