import Derived.Test.YtpbalelbenmmbaaGreatDoorHz
import Derived.Test.YtpbalelbenmmbaaGreatDoorGh
import Derived.Test.YtpbalelbenmmbaaGreatDoorHj
import Derived.Test.YtpbalelbenmmbaaGreatDoorMd
import Derived.Test.YtpbalelbenmmbaaGreatDoorRl
import Derived.Test.YtpbalelbenmmbaaGreatDoorTy
import Derived.Test.YtpbalelbenmmbaaGreatDoorWk
import Derived.Test.YtpbalelbenmmbaaGreatDoorYa
namespace Go.Proofs.YtpbalelbenmmbaaGreatDoor
open Go.Ab
theorem HM.set_set{K:Type}[DecidableEq K](M:HM K)(k:K)(a b:Option (Nat×HK)):(M.set k a).set k b=M.set k b:=by
 funext j
 unfold HM.set
 split<;>rfl
theorem first4{a b c d:Bool}(h:firstE [unlessE a 2,unlessE b 5,unlessE c 6,unlessE d 17]=0):a=true∧b=true∧c=true∧d=true:=by
 cases a<;>cases b<;>cases c<;>cases d<;>simp[firstE,unlessE]at h⊢
theorem first2{a b:Bool}(h:firstE [unlessE a 22,unlessE b 16]=0):a=true∧b=true:=by
 cases a<;>cases b<;>simp[firstE,unlessE]at h⊢
theorem startT_e{H:House}{n e:Int}{r c:List UInt8}(he:firstE [unlessE (decide (n≤1000000)) 2,unlessE (H.pIx n).isNone 5,unlessE ((H.vIx r).isSome&&(H.cIx c).isSome) 6,unlessE H.uIx.isNone 17]=e)(h0:e≠0):startT H n r c=(H,e):=by
 unfold startT
 dsimp only
 rw[he,if_pos h0]
theorem startT_2{H:House}{n:Int}{r c:List UInt8}{k j:Nat}{v:Rec×Int}{q:Coil×Int}(h0:firstE [unlessE (decide (n≤1000000)) 2,unlessE (H.pIx n).isNone 5,unlessE ((H.vIx r).isSome&&(H.cIx c).isSome) 6,unlessE H.uIx.isNone 17]=0)(hk:H.vIx r=some k)(hv:H.vers[k]?=some v)(hj:H.cIx c=some j)(hc:H.coils[j]?=some q):
  startT H n r c=if firstE [unlessE (decide (q.1.shots<q.1.life)) 22,unlessE (decide ((H.parts.length:Int)<12)) 16]≠0 then(H,firstE [unlessE (decide (q.1.shots<q.1.life)) 22,unlessE (decide ((H.parts.length:Int)<12)) 16])else({H with coils:=H.coils.modify j fun q=>({q.1 with shots:=q.1.shots+1},q.2),parts:=H.parts++[(⟨n,v.1.name,v.1.ver,q.1.name,[],0,false,0,false,Span.zero⟩,[v.2,q.2,H.entries])]},0):=by
 unfold startT
 dsimp only
 rw[if_neg (by rw[h0];decide),hk,hj]
 simp only[Option.bind_some,hv,hc]
theorem coil_mod{H:House}{j:Nat}{c:Coil}{e:Int}(h:H.coils[j]?=some (c,e))(f:Coil→Coil):(H.coils.modify j fun q=>(f c,q.2))=H.coils.modify j fun q=>(f q.1,q.2):=by
 rw[modify_at h,modify_at h]
theorem House.set3{H:House}{i:Nat}{p p1 p2:Part}{es:List Int}(h:H.parts[i]?=some (p,es)):((H.setP i fun _=>p1).addE i).setP i (fun _=>p2)=(H.setP i fun _=>p2).addE i:=by
 unfold House.setP House.addE
 dsimp only
 rw[modify_at h,modify_at h,modify_at (set_at h),modify_at (set_at h),modify_at (set_at (set_at h))]
 simp only[List.set_set]
theorem HA.pb_inj{A:HA}{h:Mem}{Y:Nat→Prop}{w:World}(hj:HeapJ A.mem h Y w):∀i j,i<A.parts.length→j<A.parts.length→A.pb i=A.pb j→i=j:=fun i j hi hj2 e=>by
 have h1:=HA.atP hi
 have h2:=HA.atP hj2
 rw[←HA.pb_at hi]at h1
 rw[←HA.pb_at hj2,←e]at h2
 exact Key.p.inj (hj.2 _ _ _ _ _ h1 h2)
def frFound(p:Part)(f:Frame):Option Nat:=ix (fun g:Frame=>decide (g.tick=f.tick)) p.frames
theorem find_ix{α:Type}(g:α→Bool)(l:List α):l.find? g=(ix g l).bind (l[·]?):=by
 have key:∀(l:List α)(k:Nat)(L:List α),(∀i,L[k+i]?=l[i]?)→l.find? g=(ixGo g k l).bind (L[·]?):=by
  intro l
  induction l with
  |nil=>intro k L _;rfl
  |cons x l ih=>
   intro k L hL
   rw[List.find?_cons,ixGo]
   cases hg:g x with
   |true=>simpa using (hL 0).symm
   |false=>
    simp only[Bool.false_eq_true,if_false]
    exact ih (k+1) L fun i=>by rw[show k+1+i=k+(i+1)by omega,hL];simp
 exact key l 0 l fun i=>by rw[Nat.zero_add]
theorem frameT_0{H:House}{f:Frame}{e0:Int}{i:Nat}(h:H.uIx=some i)(h0:e0≠0):frameT H f e0=(H,e0):=by unfold frameT;rw[h];dsimp only;rw[if_pos h0]
theorem frameT_1{H:House}{f:Frame}{i:Nat}(h:H.uIx=some i)(h0:frameE H.plan f≠0):frameT H f 0=(H,frameE H.plan f):=by unfold frameT;rw[h];dsimp only;rw[if_neg (by decide),if_pos h0]
theorem frameT_n{H:House}{f:Frame}{i:Nat}(h:H.uIx=some i)(h0:frameE H.plan f=0)(hn:frFound (H.p i) f=none):frameT H f 0=((H.setP i fun p=>{p with frames:=p.frames++[f]}).addE i,0):=by
 unfold frameT;rw[h];dsimp only;rw[if_neg (by decide),if_neg (by rw[h0];decide),find_ix,show ix _ _=none from hn];rfl
theorem frameT_s{H:House}{f g:Frame}{i k:Nat}(h:H.uIx=some i)(h0:frameE H.plan f=0)(hk:frFound (H.p i) f=some k)(hg:(H.p i).frames[k]?=some g):frameT H f 0=if g.values=f.values then(H.addE i,0)else(H,13):=by
 unfold frameT;rw[h];dsimp only;rw[if_neg (by decide),if_neg (by rw[h0];decide),find_ix,show ix _ _=some k from hk]
 simp only[Option.bind_some,hg]
theorem endT_s{H:House}{i:Nat}(h:H.uIx=some i):endT H=((H.setP i (endF H.plan H.env H.learned)).addE i,0):=by unfold endT;rw[h]
theorem HA.Like.net{A A1:HA}{i:Nat}{w:PartA}{m:Int}{f:Part→Part}(h:A.Like A1 i w (A.plain.setP i f) m):A1.plan=A.plan∧A1.env=A.env∧A1.learned=A.learned∧A1.entries=A.entries:=
 ⟨congrArg House.plan h.plain,congrArg House.env h.plain,congrArg House.learned h.plain,congrArg House.entries h.plain⟩
theorem HA.Like.netE{A A1:HA}{i:Nat}{w:PartA}{m:Int}(h:A.Like A1 i w (A.plain.addE i) m):A1.plan=A.plan∧A1.env=A.env∧A1.learned=A.learned∧A1.entries=A.entries:=
 ⟨congrArg House.plan h.plain,congrArg House.env h.plain,congrArg House.learned h.plain,congrArg House.entries h.plain⟩
theorem models_has(l:List Nat)(i:Nat):decide (0≤idxGo (fun k=>decide (i=k)) 0 l)=l.contains i:=by
 have key:∀(l:List Nat)(k:Nat),decide (0≤idxGo (fun k=>decide (i=k)) k l)=l.contains i:=by
  intro l
  induction l with
  |nil=>intro k;rfl
  |cons x l ih=>
   intro k
   rw[idxGo,List.contains_cons]
   by_cases h:i=x
   ·subst h;simp
   ·simp only[h,decide_false,Bool.false_eq_true,if_false]
    rw[ih (k+1)]
    simp[h]
 exact key l 0
set_option maxHeartbeats 2000000 in
theorem rec_start{A:HA}{m:Int}(hok:A.Ok m)(hm:m+2≤1000){n:Int}{r c:List UInt8}:CtG Tryz.prog 112 [] [.raw (pV A.b),.agg (Words.mk [n] [r,c]).cs] [(3000,.res (HeapJ A.mem))] [(3000,.res (JX A.b (startT A.plain n r c).1 (m+2)))] (.int .i64 (startT A.plain n r c).2):=by
 refine CtG.intro (rs:=[.tmp 4]) Tryz.func112 rfl Tryz.ntmps112 Tryz.results112 rfl rfl rfl rfl fun w h=>?_
 have hp1:=HA.pIx_plain A n
 have hp2:=HA.vIx_plain A r
 have hp3:=HA.cIx_plain A c
 have hp4:=HA.uIx_plain A
 have hlp:=hok.lp
 have hm0:=hok.m0
 have hPl:(A.plain.parts.length:Int)=A.parts.length:=by show((A.parts.map _).length:Int)=_;rw[List.length_map]
 obtain⟨e,he⟩:∃e,firstE [unlessE (decide (n≤1000000)) 2,unlessE (A.plain.pIx n).isNone 5,unlessE ((A.plain.vIx r).isSome&&(A.plain.cIx c).isSome) 6,unlessE A.plain.uIx.isNone 17]=e:=⟨_,rfl⟩
 have hw:=he
 rw[hp1,hp2,hp3,hp4]at hw
 refine kr (RK.c (zB (c:=3) rfl rfl) (kc (zi rfl rfl) (kq (kc (zf fi170_0 rfl) (kc (zl ti47 rfl rfl rfl rfl) (kc (S.indexM (n:=0) si47 .none rfl (zt rfl) (.cint rfl) rfl (by exact Nat.succ_pos _) rfl) (kc (zV ti3 rfl rfl) (kc (za rfl) (kD (kO (OK.regionDraw follows (.c (zm rfl) (.c (zf fi170_1 rfl) (.c (zl ti103 rfl rfl rfl rfl) (.c (S.indexM (n:=0) si103 .none rfl (zt rfl) (.cint rfl) rfl (by exact Nat.succ_pos _) rfl) (.c (zV ti9 rfl rfl) (.c (S.callR ((fun J hS hJ=>(rec_recipe hok (n:=r) hS hJ).atJ hS)) Tryz.call101 .none rfl (zc rfl (zc rfl .nil)) rfl rfl) (.c (zm rfl) (.c (zf fi170_1 rfl) (.c (zl ti103 rfl rfl rfl rfl) (.c (S.indexM (n:=1) si103 .none rfl (zt rfl) (.cint rfl) rfl (by exact Nat.one_lt_two) rfl) (.c (zV ti9 rfl rfl) (.c (S.callR ((fun J hS hJ=>(rec_coil hok (n:=c) hS hJ).atJ hS)) Tryz.call99 .none rfl (zc rfl (zc rfl .nil)) rfl rfl) (.c (za rfl) (.c (za rfl) .nil)))))))))))))) (by kernel_rfl) ?_)))))))))))
 refine kp (kc (zm rfl) (kc (S.leq .none rfl (zt rfl) (.cint rfl)) (kc (S.call (record_unless) Tryz.call58 .none rfl (zc rfl (.cons (.cint rfl) .nil)) rfl) (kc (zm rfl) (kc (zm rfl) (kc (S.callR ((fun J hS hJ=>(rec_part hok (n:=n) hS hJ).atJ hS)) Tryz.call141 .none rfl (zc rfl (zc rfl .nil)) rfl rfl) ?_))))))
 refine kc (S.peqn Tryz.underlying119 .none rfl (zt rfl)) (kc (S.call (record_unless) Tryz.call58 .none rfl (zc rfl (.cons (.cint rfl) .nil)) rfl) (kc (zm rfl) (kc (S.pnen Tryz.underlying126 .none rfl (zt rfl)) (kc (zm rfl) (RK.split (t:=36) rfl (fun g36=>?_) (fun g36=>?_))))))
 ·
  have hb:(lastIx (fun v=>decide (v.r.name=r)) A.vers).isSome=true:=by simpa only[optS]using g36
  rw[hb,Bool.true_and]at hw
  refine kc (S.move (zg rfl rfl) rfl (zt rfl)) (kc (S.pnen Tryz.underlying196 (zg rfl rfl) rfl (zt rfl)) (kc (S.pickT .none rfl (zt rfl) (zt rfl) rfl) (kc (S.call (record_unless) Tryz.call58 .none rfl (zc rfl (.cons (.cint rfl) .nil)) rfl) (kc (zm rfl) (kc (S.callR ((fun J hS hJ=>(rec_under hok hS hJ).atJ hS)) Tryz.call170 .none rfl (zc rfl .nil) rfl rfl) ?_)))))
  refine kc (S.peqn Tryz.underlying119 .none rfl (zt rfl)) (kc (S.call (record_unless) Tryz.call58 .none rfl (zc rfl (.cons (.cint rfl) .nil)) rfl) (RK.c (S.mkSlice (k:=45) (rows:=[[_],[_],[_],[_]]) ai184 .none rfl (zc rfl (zc rfl (zc rfl (zc rfl .nil)))) rfl rfl rfl rfl rfl rfl rfl) (kc (S.callL (record_first (l:=[_,_,_,_])) Tryz.call57 .none rfl (zc rfl .nil) (.cons (.p (.own rfl rfl) rfl) .nil) rfl) (kc (za rfl) (kD (kO (kr ?_)))))))
  refine kc (zm rfl) (kc (zN rfl rfl) (kD (kB rfl (fun c48=>?_) (fun c48=>?_))))
  ·
   simp only[optN,optS,notNone,List.getElem_cons_zero,List.getElem_cons_succ]at c48
   rw[hw]at c48
   have hT:=startT_e he c48
   refine kr (kc (zm rfl) (kc (za rfl) (kD (OK.resTo (J':=JX A.b (startT A.plain n r c).1 (m+2)) rfl (JX.stable _ _ _) (fun h Y w hj=>HA.jx hok (by omega) hm (by rw[hT]) hj) ?_))))
   refine OK.ret ⟨Ret.r1 (zo rfl rfl) ?_,rfl,trivial⟩
   rw[hT]
   refine ret_i ?_
   simp only[optN,optS,notNone,List.getElem_cons_zero,List.getElem_cons_succ]
   exact hw
  ·
   have h0:e=0:=by rw[←hw];simpa only[optN,optS,notNone,List.getElem_cons_zero,List.getElem_cons_succ,ne_eq,Decidable.not_not]using c48
   rw[h0]at he hw
   obtain⟨q1,q2,q3,q4⟩:=first4 hw
   obtain⟨k,hk⟩:=Option.isSome_iff_exists.1 hb
   obtain⟨hk1,_⟩:=lastIx_some hk
   obtain⟨vv,hvv⟩:=at_of_lt hk1
   obtain⟨j,hj⟩:=Option.isSome_iff_exists.1 q3
   obtain⟨cc,hcc⟩:=at_of_lt (ix_some hj).1
   have hcl:=hok.cl cc (List.mem_of_getElem? hcc)
   rw[optP_at hk (HA.vb? hvv),optP_at hj (HA.cb? hcc)]
   have hT2:=startT_2 he (hp2.trans hk) (HA.plain_ver hvv) (hp3.trans hj) (HA.plain_coil hcc)
   rw[hPl]at hT2
   refine OK.skip (Ab.D.code (kO (kO (OK.regionDraw follows (.c (zm rfl) (.c (zn rfl rfl) (.c (zr fi201_0 rfl) (.c (zr fi199_2 rfl) (.c (S.rload1 ti3 .none rfl (zt rfl) rfl (HeapJ.ld1 (k:=.c j) (HA.atC? hcc) rfl (.same _))) (.c (zm rfl) (.c (zn rfl rfl) (.c (zr fi201_0 rfl) (.c (zr fi199_1 rfl) (.c (S.rload1 ti3 .none rfl (zt rfl) rfl (HeapJ.ld1 (k:=.c j) (HA.atC? hcc) rfl (.same _))) (.c (S.lss .none rfl (zt rfl) (zt rfl)) (.c (S.call (record_unless) Tryz.call58 .none rfl (zc rfl (.cons (.cint rfl) .nil)) rfl) (.c (zm rfl) (.c (zn rfl rfl) (.c (zr fi130_3 rfl) (.c (S.rload1 (u:=.sl (A.parts.map pRow)) ti128 .none rfl (zt rfl) rfl (HeapJ.ld1 (k:=.house) rfl rfl (.sl hok.ps))) (.c (zk si128 rfl) (.c (S.lss .none rfl (zt rfl) (.cint rfl)) (.c (S.call (record_unless) Tryz.call58 .none rfl (zc rfl (.cons (.cint rfl) .nil)) rfl) (.c (S.mkSlice (k:=69) (rows:=[[_],[_]]) ai184 .none rfl (zc rfl (zc rfl .nil)) rfl rfl rfl rfl rfl rfl rfl) (.c (S.callL (record_first (l:=[_,_])) Tryz.call57 .none rfl (zc rfl .nil) (.cons (.p (.own rfl rfl) rfl) .nil) rfl) (.c (za rfl) .nil)))))))))))))))))))))) (by kernel_rfl) ?_))))
   refine kp (kc (zm rfl) (kc (zN rfl rfl) (kD (kB rfl (fun c72=>?_) (fun c72=>?_)))))
   ·
    have hT:=hT2.trans (if_pos c72)
    refine kr (kc (zm rfl) (kc (za rfl) (kD (OK.resTo (J':=JX A.b (startT A.plain n r c).1 (m+2)) rfl (JX.stable _ _ _) (fun h Y w hj=>HA.jx hok (by omega) hm (by rw[hT]) hj) ?_))))
    refine OK.ret ⟨Ret.r1 (zo rfl rfl) ?_,rfl,trivial⟩
    rw[hT]
   ·
    have hT:=hT2.trans (if_neg c72)
    obtain⟨s1,s2⟩:=first2 (Decidable.not_not.1 c72)
    have hsl:cc.c.shots<cc.c.life:=of_decide_eq_true s1
    refine OK.skip (kp (kc (zm rfl) (kc (zn rfl rfl) (kc (zr fi201_0 rfl) (kc (zr fi199_2 rfl) (kc (S.rload1 ti3 .none rfl (zt rfl) rfl (HeapJ.ld1 (k:=.c j) (HA.atC? hcc) rfl (.same _))) (kc (zp rfl rfl (by omega)) (kc (zn rfl rfl) (kc (zr fi201_0 rfl) (kc (zr fi199_2 rfl) (kc (S.hstore (xs':=({cc with c:={cc.c with shots:=cc.c.shots+1}}:CoilA).cs) (.c j) ti3 .none (zt rfl) (zt rfl) rfl (HA.atC? hcc) rfl rfl rfl rfl rfl) ?_)))))))))))
    refine kD (kO ?_)
    refine OK.coil1 {cc.c with shots:=cc.c.shots+1} hok hcc rfl (by dsimp only;omega) fun A1 hL hcc1=>?_
    have hvv1:A1.vers[k]?=some vv:=by rw[hL.vers];exact hvv
    have hok1:=hL.ok
    have hlp1:=hok1.lp
    rw[←hL.b]
    refine OK.regionDrawX2 follows (ι:=((Nat×Nat)×Nat×Nat×Nat)) ((0,0),0,0,0) (x:=33) (fun q=>(.cs (zm rfl) (.cs (zm rfl) (.cs (zn rfl rfl) (.cs (zr fi130_3 rfl) (.cs (S.rload1 ti128 .none rfl (zt rfl) rfl (HeapJ.ld1 (k:=.house) rfl rfl (.same _))) (.cs (zm rfl) (.cs (zm rfl) (.cs (zn rfl rfl) (.cs (zr fi135_0 rfl) (.cs (zr fi133_0 rfl) (.cs (S.rloadN (us:=[.str vv.r.name,.int .i64 vv.r.ver]) ti59 .none rfl (zt rfl) rfl (HeapJ.ldN (k:=.v k) (xs:=vv.cs) (HA.atV? hvv1) ⟨.same _,.same _,trivial⟩ rfl)) (.cs (zm rfl) (.cs (zn rfl rfl) (.cs (zr fi201_0 rfl) (.cs (zr fi199_0 rfl) (.cs (S.rload1 ti9 .none rfl (zt rfl) rfl (HeapJ.ld1 (k:=.c j) (HA.atC? hcc1) rfl (.same _))) (.cs (S.build bu68 rfl .none rfl (zc rfl (zc rfl (zc rfl .nil))) rfl rfl) (.cs (zm rfl) (.cs (zn rfl rfl) (.cs (zr fi135_1 rfl) (.cs (S.rload1 ti3 .none rfl (zt rfl) rfl (HeapJ.ld1 (k:=.v k) (HA.atV? hvv1) rfl (.same _))) (.cs (zm rfl) (.cs (zn rfl rfl) (.cs (zr fi201_1 rfl) (.cs (S.rload1 ti3 .none rfl (zt rfl) rfl (HeapJ.ld1 (k:=.c j) (HA.atC? hcc1) rfl (.same _))) (.cs (zm rfl) (.cs (zn rfl rfl) (.cs (zr fi130_7 rfl) (.cs (S.rload1 ti3 .none rfl (zt rfl) rfl (HeapJ.ld1 (k:=.house) rfl rfl (.same _))) (.cs (S.mkSlice (k:=112) (rows:=[[_],[_],[_]]) ai47 .none rfl (zc rfl (zc rfl (zc rfl .nil))) rfl rfl rfl rfl rfl rfl rfl) (.cs (S.build bu123 rfl .none rfl (zc rfl (zc rfl .nil)) rfl rfl) (.cs (S.boxA (k:=114) rfl .none rfl (zt rfl) rfl) (.cs (S.mkSliceP (k:=115) ai128 .none rfl (zt rfl) rfl)
     (.x (rd:=[(87,.raw (A1.ph.v A1.parts.length)),(115,.own 115 1),(2115,.arrn 1 [] [.optr 114 1 0] []),(2114,.arrn 14 [] [.int .i64 n,.str vv.r.name,.int .i64 vv.r.ver,.str cc.c.name,.nils,.int .i64 0,.bool false,.int .i64 0,.bool false,.int .i64 0,.int .i64 0,.int .i64 0,.int .i64 0,.own 112 3] []),(2112,.arr 1 [[.int .i64 vv.entry],[.int .i64 cc.entry],[.int .i64 A1.entries]]),(3000,.res (HeapJ A1.mem))]) (wr:=((116,.raw (.slice (some ⟨q.2.2.1,0,none⟩) ((A1.parts.map pRow).length+1) q.2.2.2))::(3000,.res (HeapJ (((A1.mem.set (.e A1.parts.length) (some (q.1.1,.row 1 q.1.2 [[.int .i64 vv.entry],[.int .i64 cc.entry],[.int .i64 A1.entries]]))).set (.p A1.parts.length) (some (q.2.1,.box [.int .i64 n,.str vv.r.name,.int .i64 vv.r.ver,.str cc.c.name,.raw (.slice none 0 0),.int .i64 0,.bool false,.int .i64 0,.bool false,.int .i64 0,.int .i64 0,.int .i64 0,.int .i64 0,.raw (.slice (some ⟨q.1.1,0,none⟩) 3 q.1.2)]))).set .ps (some (q.2.2.1,.gro 1 q.2.2.2 (A1.parts.map pRow++[[X.raw (pV q.2.1)]]))))))::(2112,.any)::(2114,.any)::[])) (al:=[]) ⟨rfl,rfl,rfl,rfl,rfl,rfl,trivial⟩ (.cn (zn rfl rfl) (.cn (zr fi130_3 rfl) (.cn (S.hstore (xs:=A1.cs) (xs':=(A1.newP ⟨q.2.1,none,some q.1,⟨n,vv.r.name,vv.r.ver,cc.c.name,[],0,false,0,false,Span.zero⟩,[vv.entry,cc.entry,A1.entries]⟩ q.2.2).cs) (.house) ti128 .none (zt rfl) (zt rfl) rfl ((HM.set_other _ _ (fun h=>by cases h)).trans ((HM.set_other _ _ (fun h=>by cases h)).trans ((HM.set_other _ _ (fun h=>by cases h)).trans A1.atH))) rfl rfl rfl rfl (newP_cs A1 ⟨q.2.1,none,some q.1,⟨n,vv.r.name,vv.r.ver,cc.c.name,[],0,false,0,false,Span.zero⟩,[vv.entry,cc.entry,A1.entries]⟩ q.2.2)) .nil)))))))))))))))))))))))))))))))))))))) (S.happB2 (s:=[(87,.raw (A1.ph.v A1.parts.length)),(115,.own 115 1),(2115,.arrn 1 [] [.optr 114 1 0] []),(2114,.arrn 14 [] [.int .i64 n,.str vv.r.name,.int .i64 vv.r.ver,.str cc.c.name,.nils,.int .i64 0,.bool false,.int .i64 0,.bool false,.int .i64 0,.int .i64 0,.int .i64 0,.int .i64 0,.own 112 3] []),(2112,.arr 1 [[.int .i64 vv.entry],[.int .i64 cc.entry],[.int .i64 A1.entries]]),(3000,.res (HeapJ A1.mem))]) (sz:=14) (sz2:=1) (j:=115) (k:=114) (k2:=112) (n2:=3) (cells:=[.int .i64 n,.str vv.r.name,.int .i64 vv.r.ver,.str cc.c.name,.nils,.int .i64 0,.bool false,.int .i64 0,.bool false,.int .i64 0,.int .i64 0,.int .i64 0,.int .i64 0,.own 112 3]) (rows2:=[[.int .i64 vv.entry],[.int .i64 cc.entry],[.int .i64 A1.entries]]) (fun hv=>[.int .i64 n,.str vv.r.name,.int .i64 vv.r.ver,.str cc.c.name,.raw (.slice none 0 0),.int .i64 0,.bool false,.int .i64 0,.bool false,.int .i64 0,.int .i64 0,.int .i64 0,.int .i64 0,.raw hv]) .ps (.p A1.parts.length) (.e A1.parts.length) ai128 rfl (zt rfl) hok1.ps (fun h=>by cases h) (fun h=>by cases h) (zt rfl) rfl rfl rfl rfl (by decide) rfl rfl (fun b cap=>⟨.inl ⟨rfl,rfl⟩,.inl ⟨rfl,rfl⟩,.inl ⟨rfl,rfl⟩,.inl ⟨rfl,rfl⟩,.inl ⟨rfl,rfl⟩,.inl ⟨rfl,rfl⟩,.inl ⟨rfl,rfl⟩,.inl ⟨rfl,rfl⟩,.inl ⟨rfl,rfl⟩,.inl ⟨rfl,rfl⟩,.inl ⟨rfl,rfl⟩,.inl ⟨rfl,rfl⟩,.inl ⟨rfl,rfl⟩,.inr ⟨rfl,rfl⟩,trivial⟩) (by simp only[List.length_map];omega) (by simp only[List.length_map,maxLen];omega)).st (fun _=>by kernel_rfl) (fun q q' j h1 h2 h3=>by
      have h4:j<37:=h2
      rcases(show j=0∨j=1∨j=2∨j=3∨j=4∨j=5∨j=6∨j=7∨j=8∨j=9∨j=10∨j=11∨j=12∨j=13∨j=14∨j=15∨j=16∨j=17∨j=18∨j=19∨j=20∨j=21∨j=22∨j=23∨j=24∨j=25∨j=26∨j=27∨j=28∨j=29∨j=30∨j=31∨j=32∨j=34∨j=35∨j=36 by omega)with rfl|rfl|rfl|rfl|rfl|rfl|rfl|rfl|rfl|rfl|rfl|rfl|rfl|rfl|rfl|rfl|rfl|rfl|rfl|rfl|rfl|rfl|rfl|rfl|rfl|rfl|rfl|rfl|rfl|rfl|rfl|rfl|rfl|rfl|rfl|rfl<;>first|rfl|exact Bool.noConfusion ((show _=true by kernel_rfl).symm.trans h3)) (fun _=>rfl) rfl (fun q=>?_)
    refine Ab.D.code (kO ?_)
    refine OK.newP ⟨n,vv.r.name,vv.r.ver,cc.c.name,[],0,false,0,false,Span.zero⟩ [vv.entry,cc.entry,A1.entries] hok1 (by omega) rfl rfl rfl (by dsimp only;decide) ⟨hok1.vn vv (List.mem_of_getElem? hvv1),hok.cn cc (List.mem_of_getElem? hcc)⟩ fun A2 hok2 hb2 hpl2=>?_
    refine OK.reg (kc (zi rfl rfl) (kD ?_))
    refine OK.resTo (J':=JX A1.b (startT A.plain n r c).1 (m+2)) rfl (JX.stable _ _ _) (fun h Y w hj=>jx_of hok2 (by omega) hm hb2 (by rw[hpl2,hL.plain,hT,←coil_mod (HA.plain_coil hcc) (fun c=>{c with shots:=c.shots+1}),hL.entries];rfl) hj) ?_
    refine OK.ret ⟨Ret.r1 (zo rfl rfl) ?_,rfl,trivial⟩
    rw[hT]
 ·
  have hb:(lastIx (fun v=>decide (v.r.name=r)) A.vers).isSome=false:=by simpa[optS]using g36
  rw[hb,Bool.false_and]at hw
  refine kc (zQ rfl rfl) (kc (zQ rfl rfl) (kc (S.pickF .none rfl (zt rfl) .cbool rfl) (kc (S.call (record_unless) Tryz.call58 .none rfl (zc rfl (.cons (.cint rfl) .nil)) rfl) (kc (zm rfl) (kc (S.callR ((fun J hS hJ=>(rec_under hok hS hJ).atJ hS)) Tryz.call170 .none rfl (zc rfl .nil) rfl rfl) ?_)))))
  refine kc (S.peqn Tryz.underlying119 .none rfl (zt rfl)) (kc (S.call (record_unless) Tryz.call58 .none rfl (zc rfl (.cons (.cint rfl) .nil)) rfl) (RK.c (S.mkSlice (k:=45) (rows:=[[_],[_],[_],[_]]) ai184 .none rfl (zc rfl (zc rfl (zc rfl (zc rfl .nil)))) rfl rfl rfl rfl rfl rfl rfl) (kc (S.callL (record_first (l:=[_,_,_,_])) Tryz.call57 .none rfl (zc rfl .nil) (.cons (.p (.own rfl rfl) rfl) .nil) rfl) (kc (za rfl) (kD (kO (kr ?_)))))))
  refine kc (zm rfl) (kc (zN rfl rfl) (kD (kB rfl (fun c48=>?_) (fun c48=>?_))))
  ·
   simp only[optN,optS,notNone,List.getElem_cons_zero,List.getElem_cons_succ]at c48
   rw[hw]at c48
   have hT:=startT_e he c48
   refine kr (kc (zm rfl) (kc (za rfl) (kD (OK.resTo (J':=JX A.b (startT A.plain n r c).1 (m+2)) rfl (JX.stable _ _ _) (fun h Y w hj=>HA.jx hok (by omega) hm (by rw[hT]) hj) ?_))))
   refine OK.ret ⟨Ret.r1 (zo rfl rfl) ?_,rfl,trivial⟩
   rw[hT]
   refine ret_i ?_
   simp only[optN,List.getElem_cons_zero,List.getElem_cons_succ]
   exact hw
  ·
   exfalso
   have h0:e=0:=by rw[←hw];simpa only[optN,optS,notNone,List.getElem_cons_zero,List.getElem_cons_succ,ne_eq,Decidable.not_not]using c48
   rw[h0]at hw
   obtain⟨_,_,q3,_⟩:=first4 hw
   cases q3
set_option maxHeartbeats 2000000 in
theorem rec_end{A:HA}{m:Int}(hok:A.Ok m)(hm:m+2≤1000){w:Words}:CtG Tryz.prog 114 [] [.raw (pV A.b),.agg w.cs] [(3000,.res (HeapJ A.mem))] [(3000,.res (JX A.b (endT A.plain).1 (m+2)))] (.int .i64 (endT A.plain).2):=by
 refine CtG.intro (rs:=[.tmp 4]) Tryz.func114 rfl Tryz.ntmps114 Tryz.results114 rfl rfl rfl rfl fun w h=>?_
 have hp4:=HA.uIx_plain A
 refine kr (RK.c (zB (c:=3) rfl rfl) (kc (zi rfl rfl) (kq (kc (zm rfl) (kc (S.callR ((fun J hS hJ=>(rec_under hok hS hJ).atJ hS)) Tryz.call170 .none rfl (zc rfl .nil) rfl rfl) ?_)))))
 refine kc (za rfl) (kD (kO (kr ?_)))
 refine kc (zm rfl) (kc (S.peqn Tryz.underlying119 .none rfl (zt rfl)) (kD (OK.cond rfl rfl (fun c9=>?_) (fun c9=>?_))))
 ·
  have hN:ix (fun v=>decide (v.p.place=0)) A.parts=none:=opt_none c9
  refine kr (kc (zi rfl rfl) (kD ?_))
  have hT:endT A.plain=(A.plain,12):=by unfold endT;rw[hp4,hN]
  refine OK.resTo (J':=JX A.b (endT A.plain).1 (m+2)) rfl (JX.stable _ _ _) (fun h Y w hj=>HA.jx hok (by omega) hm (by rw[hT]) hj) ?_
  refine OK.ret ⟨Ret.r1 (zo rfl rfl) ?_,rfl,trivial⟩
  rw[hT]
 ·
  obtain⟨i,hpi⟩:∃i,ix (fun v=>decide (v.p.place=0)) A.parts=some i:=opt_someF c9
  obtain⟨v,hv⟩:=at_of_lt (ix_some hpi).1
  rw[optP_at hpi (HA.pb? hv)]
  refine OK.skip (Ab.D.code (kO ?_))
  have hT:=endT_s (hp4.trans hpi)
  refine OK.reg (kc (zm rfl) (kc (zm rfl) (kc (zm rfl) (kc (zn rfl rfl) (kc (zr fi130_6 rfl) (kc (S.rload1 ti4 .none rfl (zt rfl) rfl (HeapJ.ld1 (k:=.house) rfl rfl (.same _))) (kc (zn rfl rfl) (kc (zr fi123_0 rfl) (kc (zr fi68_4 rfl) (kc (S.hstore (xs':=({v with p:={v.p with place:=1}}:PartA).cs) (.p i) ti3 .none (zt rfl) (.cint rfl) rfl (HA.atP? hv) rfl rfl rfl rfl rfl) (kc (zn rfl rfl) ?_)))))))))))
  refine kc (zr fi123_0 rfl) (kc (zr fi68_5 rfl) (kc (S.hstore (xs':=({v with p:={v.p with place:=1,judged:=A.learned}}:PartA).cs) (.p i) ti4 .none (zt rfl) (zt rfl) rfl (HM.set_same _ _ _) rfl rfl rfl rfl rfl) (kD (kO ?_))))
  rw[HM.set_set]
  refine OK.part1 {v.p with place:=1,judged:=A.learned} hok hv rfl rfl (by dsimp only;decide) fun A1 hL=>?_
  have hok1:=hL.ok
  obtain⟨hn1,hn2,hn3,hn4⟩:=hL.net
  obtain⟨v1,hv1,hvb1,hvp1⟩:∃v1:PartA,A1.parts[i]?=some v1∧v1.b=v.b∧v1.p={v.p with place:=1,judged:=A.learned}:=⟨_,hL.at_,rfl,rfl⟩
  rw[←hvb1,←hL.b]
  refine OK.regionDrawX2 follows (ι:=(Nat×Nat)) (0,0) (x:=10) (fun q=>(.cs (zm rfl) (.cs (zm rfl) (.cs (zn rfl rfl) (.cs (zr fi123_1 rfl) (.cs (S.rload1 ti47 .none rfl (zt rfl) rfl (HeapJ.ld1 (k:=.p i) (HA.atP? hv1) rfl (.same _))) (.cs (zm rfl) (.cs (zn rfl rfl) (.cs (zr fi130_7 rfl) (.cs (S.rload1 ti3 .none rfl (zt rfl) rfl (HeapJ.ld1 (k:=.house) rfl rfl (.same _))) (.cs (S.mkSlice (k:=31) (rows:=[[_]]) ai47 .none rfl (zc rfl .nil) rfl rfl rfl rfl rfl rfl rfl)
   (.x (rd:=[(26,.raw (v1.eh.v v1.es.length)),(31,.own 31 1),(2031,.arr 1 [[.int .i64 A1.entries]]),(3000,.res (HeapJ A1.mem))]) (wr:=((32,.raw (.slice (some ⟨q.1,0,none⟩) ((intRows v1.es).length+1) q.2))::(3000,.res (HeapJ (A1.mem.set (.e i) (some (q.1,.row 1 q.2 (intRows v1.es++[[X.int .i64 A1.entries]]))))))::[])) (al:=[]) ⟨rfl,rfl,rfl,rfl,trivial⟩ (.cn (zn rfl rfl) (.cn (zr fi123_1 rfl) (.cn (S.hstore (xs:=v1.cs) (xs':=({v1 with eh:=some q,es:=v1.es++[A1.entries]}:PartA).cs) (.p i) ti47 .none (zt rfl) (zt rfl) rfl ((HM.set_other _ _ (fun h=>by cases h)).trans (HA.atP? hv1)) rfl rfl rfl rfl (partE_cs v1 q _)) .nil))))))))))))))) (S.happR (s:=[(26,.raw (v1.eh.v v1.es.length)),(31,.own 31 1),(2031,.arr 1 [[.int .i64 A1.entries]]),(3000,.res (HeapJ A1.mem))]) (m:=1) (rows2:=[[.int .i64 A1.entries]]) (.e i) ai47 rfl (zt rfl) (hok1.es? hv1) (zt rfl) rfl rfl rfl (by decide) (by simp only[intRows,List.length_map];have:=hok1.le _ (List.mem_of_getElem? hv1);have:=hok1.m0;omega) (by simp only[intRows,List.length_map,maxLen];have:=hok1.le _ (List.mem_of_getElem? hv1);have:=hok1.m0;omega)).st (fun _=>by kernel_rfl) (fun q q' j h1 h2 h3=>by
    have h4:j<14:=h2
    rcases(show j=0∨j=1∨j=2∨j=3∨j=4∨j=5∨j=6∨j=7∨j=8∨j=9∨j=11∨j=12∨j=13 by omega)with rfl|rfl|rfl|rfl|rfl|rfl|rfl|rfl|rfl|rfl|rfl|rfl|rfl<;>first|rfl|exact Bool.noConfusion ((show _=true by kernel_rfl).symm.trans h3)) (fun _=>rfl) rfl (fun q=>?_)
  refine Ab.D.code (kO (kO (OK.partE q _ hok1 (by omega) hv1 rfl rfl fun A2 hL2=>?_)))
  have hok2:=hL2.ok
  obtain⟨hk1,hk2,hk3,hk4⟩:=hL2.netE
  obtain⟨v2,hv2,hvb2,hvp2⟩:∃v2:PartA,A2.parts[i]?=some v2∧v2.b=v1.b∧v2.p=v1.p:=⟨_,hL2.at_,rfl,rfl⟩
  rw[←hvb2,←hL2.b]
  refine OK.reg (kc (zm rfl) (kc (zn rfl rfl) (kc (zr fi130_6 rfl) (kc (S.rload1 ti4 .none rfl (zt rfl) rfl (HeapJ.ld1 (k:=.house) rfl rfl (.same _))) (kD (OK.cond rfl rfl (fun c38=>?_) (fun c38=>?_)))))))
  ·
   have hl:A.learned=true:=by rw[←hn3,←hk3];exact c38
   have hF:({v2.p with verdict:=if bothErr A2.plan A2.env (recOf A2.plan v2.p.frames)=0 then verdT A2.env (recOf A2.plan v2.p.frames)else 0}:Part)=endF A.plain.plan A.plain.env A.plain.learned v.p:=by
    rw[hvp2,hvp1,hk1,hk2,hn1,hn2]
    show _=endF A.plan A.env A.learned v.p
    unfold endF
    rw[if_pos hl]
   refine OK.regionDraw follows (.c (zm rfl) (.c (zm rfl) (.c (zn rfl rfl) (.c (zr fi130_0 rfl) (.c (zr fi107_1 rfl) (.c (S.rloadN (us:=A2.plan.cs) ti105 .none rfl (zt rfl) rfl (HeapJ.ldN (k:=.house) (xs:=A2.cs) rfl ⟨.same _,.same _,trivial⟩ rfl)) (.c (zm rfl) (.c (zn rfl rfl) (.c (zr fi130_5 rfl) (.c (S.rloadN (us:=A2.env.cs) ti50 .none rfl (zt rfl) rfl (HeapJ.ldN (k:=.house) (xs:=A2.cs) rfl ⟨.same _,.same _,.same _,trivial⟩ rfl)) (.c (zm rfl) (.c (zm rfl) (.c (S.callR ((fun J hS hJ=>(rec_record hok2 hv2 hS hJ).atJ hS)) Tryz.call177 .none rfl (zc rfl (zc rfl .nil)) rfl rfl) (.c (S.call (mon_VerdictOf) Tryz.call176 .none rfl (zc rfl (zc rfl (zc rfl .nil))) rfl) (.c (zm rfl) (.c (zX rfl rfl rfl) (.c (zX rfl rfl rfl) (.c (zn rfl rfl) (.c (zr fi123_0 rfl) (.c (zr fi68_6 rfl) (.c (S.hstore (xs':=({v2 with p:={v2.p with verdict:=if bothErr A2.plan A2.env (recOf A2.plan v2.p.frames)=0 then verdT A2.env (recOf A2.plan v2.p.frames)else 0}}:PartA).cs) (.p i) ti3 .none (zt rfl) (zt rfl) rfl (HA.atP? hv2) rfl rfl rfl rfl rfl) .nil))))))))))))))))))))) (by kernel_rfl) ?_
   refine Ab.D.code (kO (OK.part1 {v2.p with verdict:=if bothErr A2.plan A2.env (recOf A2.plan v2.p.frames)=0 then verdT A2.env (recOf A2.plan v2.p.frames)else 0} hok2 hv2 rfl rfl (hok2.pl v2 (List.mem_of_getElem? hv2)) fun A3 hL3=>?_))
   refine OK.reg (kc (zi rfl rfl) (kD (OK.resTo (J':=JX A2.b (endT A.plain).1 (m+2)) rfl (JX.stable _ _ _) (fun h Y w hj=>jx_of hL3.ok (by omega) hm hL3.b (by rw[hL3.plain,hL2.plain,hL.plain,hT,House.set3 (HA.plain_part hv),hF,House.setP_at (HA.plain_part hv)]) hj) ?_)))
   refine OK.ret ⟨Ret.r1 (zo rfl rfl) ?_,rfl,trivial⟩
   rw[hT]
  ·
   have hl:¬A.learned=true:=by rw[←hn3,←hk3,c38];decide
   refine kr (kc (zm rfl) (kc (zm rfl) (kc (S.callR ((fun J hS hJ=>(rec_isWhole hok2 hv2 hS hJ).atJ hS)) Tryz.call178 .none rfl (zc rfl (zc rfl .nil)) rfl rfl) ?_)))
   refine kc (S.not .none rfl (zt rfl)) (kD (OK.cond rfl rfl (fun c62=>?_) (fun c62=>?_)))
   ·
    have hF:({v2.p with verdict:=1}:Part)=endF A.plain.plan A.plain.env A.plain.learned v.p:=by
     have hw:¬wholeP A.plan v.p=true:=by
      have h:=c62
      rw[hvp2,hvp1,hk1,hn1]at h
      unfold wholeP
      simpa using h
     rw[hvp2,hvp1]
     show _=endF A.plan A.env A.learned v.p
     unfold endF
     rw[if_neg hl,if_neg hw]
    refine OK.reg (kc (zm rfl) (kc (zn rfl rfl) (kc (zr fi123_0 rfl) (kc (zr fi68_6 rfl) (kc (S.hstore (xs':=({v2 with p:={v2.p with verdict:=1}}:PartA).cs) (.p i) ti3 .none (zt rfl) (.cint rfl) rfl (HA.atP? hv2) rfl rfl rfl rfl rfl) (kD (kO (OK.part1 {v2.p with verdict:=1} hok2 hv2 rfl rfl (hok2.pl v2 (List.mem_of_getElem? hv2)) fun A3 hL3=>?_))))))))
    refine OK.reg (kc (zi rfl rfl) (kD (OK.resTo (J':=JX A2.b (endT A.plain).1 (m+2)) rfl (JX.stable _ _ _) (fun h Y w hj=>jx_of hL3.ok (by omega) hm hL3.b (by rw[hL3.plain,hL2.plain,hL.plain,hT,House.set3 (HA.plain_part hv),hF,House.setP_at (HA.plain_part hv)]) hj) ?_)))
    refine OK.ret ⟨Ret.r1 (zo rfl rfl) ?_,rfl,trivial⟩
    rw[hT]
   ·
    have hF:({v.p with place:=1,judged:=A.learned}:Part)=endF A.plain.plan A.plain.env A.plain.learned v.p:=by
     have hw:wholeP A.plan v.p=true:=by
      have h:=c62
      rw[hvp2,hvp1,hk1,hn1]at h
      unfold wholeP
      simpa using h
     show _=endF A.plan A.env A.learned v.p
     unfold endF
     rw[if_neg hl,if_pos hw]
    refine OK.skip (kp (kc (zi rfl rfl) (kD (OK.resTo (J':=JX A2.b (endT A.plain).1 (m+2)) rfl (JX.stable _ _ _) (fun h Y w hj=>jx_of hL2.ok (by omega) hm rfl (by rw[hL2.plain,hL.plain,hT,hF,House.setP_at (HA.plain_part hv)]) hj) ?_))))
    refine OK.ret ⟨Ret.r1 (zo rfl rfl) ?_,rfl,trivial⟩
    rw[hT]
theorem rec_frame1{g f:Frame}:Ct Tryz.prog 174 [.agg g.cs,.eptr f.cs] (.bool (decide (g.tick=f.tick))):=by
 refine Ct.intro (rs:=[.tmp 3]) Tryz.func174 rfl Tryz.ntmps174 Tryz.results174 rfl rfl rfl fun w h=>?_
 refine kr (RK.c (zB (c:=2) rfl rfl) (kc (zb rfl) (kq (kc (zf fi140_0 rfl) (kc (zl ti3 rfl rfl rfl rfl) (kc (S.field fi140_0 .none rfl (zt rfl) rfl) (kc (zV ti3 rfl rfl) (kc (S.eql .none rfl (zt rfl) (zt rfl)) (kc (za rfl) (kD (OK.ret (Ret.r1 (zo rfl rfl) ?_))))))))))))
 rfl
theorem rec_ixFrame{l:List Frame}{f:Frame}:Ct Tryz.prog 173 [.sl (l.map Frame.cs),.fn 174 [.eptr f.cs]] (.int .i64 (idxGo (fun g:Frame=>decide (g.tick=f.tick)) 0 l)):=by
 refine Ct.intro (rs:=[.tmp 4]) Tryz.func173 rfl Tryz.ntmps173 Tryz.results173 rfl rfl rfl fun w h=>?_
 refine OK.slLen (rows:=l.map Frame.cs) (t:=0) rfl rfl fun hlen=>?_
 rw[List.length_map]at hlen
 unfold maxLen at hlen
 refine kr (kc (zi rfl rfl) (kD (kO (kr ?_))))
 refine kc (zm rfl) (kc (zk si62 rfl) (kc (S.move .none rfl (.cint rfl)) (kD (OK.block (OK.loop (G:=Nat) [] (fun i=>[(0,.sl (l.map Frame.cs)),(1,.fn 174 [.eptr f.cs]),(7,.int .i64 l.length),(8,.int .i64 i)]) (fun i=>i≤l.length∧idxGo (fun g:Frame=>decide (g.tick=f.tick)) 0 l=idxGo (fun g:Frame=>decide (g.tick=f.tick)) i (l.drop i)) (fun i=>l.length - i) 0 ⟨Nat.zero_le _,rfl⟩ ⟨rfl,rfl,rfl,rfl,trivial⟩ (fun _=>rfl) ?_)))))
 rintro i ⟨hi,hg⟩
 refine kr (kc (S.lss .none rfl (zt rfl) (zt rfl)) (kD (kO (kB rfl (fun c9=>?_) (fun c9=>?_)))))
 ·
  have hil:i<l.length:=by omega
  refine OK.skip (Ab.D.code (kO (OK.block (kr (kc (zm rfl) (kc (za rfl) (kq (kc (zm rfl) (kc (zm rfl) (kc (zm rfl) (kc (S.indexM (n:=i) si62 .none rfl (zt rfl) (zt rfl) rfl (by omega) rfl) ?_)))))))))))
  refine kc (S.loadN ti140 .none rfl (zt rfl) rfl rfl) (kc (S.callv (rec_frame1 (g:=l[i]) (f:=f)) Tryz.call174 .none rfl (zt rfl) (zc rfl .nil) rfl rfl rfl) (kD (kB rfl (fun c16=>?_) (fun c16=>?_))))
  ·
   refine kr (kc (zm rfl) (kc (za rfl) (kD (OK.ret (Ret.r1 (zo rfl rfl) ?_)))))
   refine ret_i ?_
   rw[hg,idxGo_drop _ (by omega)]
   simp_all
  ·
   refine OK.skip (Ab.D.blk (Ab.D.code (OK.reg ?_)))
   refine kc (zp rfl rfl (by omega)) (kc (zm rfl) (RK.nil (Ab.D.lp ⟨i+1,⟨by omega,?_⟩,(by omega),rfl,rfl,rfl,rfl,trivial⟩)))
   rw[hg,idxGo_drop _ (by omega)]
   simp_all
 ·
  refine OK.exit rfl (kp (kc (zi rfl rfl) (kD (OK.ret (Ret.r1 (zo rfl rfl) ?_)))))
  refine ret_i ?_
  have:i=l.length:=by omega
  subst this
  rw[hg,List.drop_length]
  rfl
set_option maxHeartbeats 2000000 in
theorem rec_frame{A:HA}{m:Int}(hok:A.Ok m)(hm:m+2≤1000){t:List UInt8}(ht:t.length≤600)(hpe:planErr A.plan=0):CtGT Tryz.prog 113 [] [.raw (pV A.b),.agg (Words.mk [] [t]).cs] [(3000,.res (HeapJ A.mem))] [(3000,.res (JX A.b (frameT A.plain (parseF t).1 (parseF t).2).1 (m+2)))] (.int .i64 (frameT A.plain (parseF t).1 (parseF t).2).2):=by
 refine CtGT.intro (rs:=[.tmp 4]) Tryz.func113 rfl Tryz.ntmps113 Tryz.results113 rfl rfl rfl rfl fun w h hT=>?_
 have hp4:=HA.uIx_plain A
 have hm0:=hok.m0
 refine kr (RK.c (zB (c:=3) rfl rfl) (kc (zi rfl rfl) (kq (kc (zm rfl) (kc (S.callR ((fun J hS hJ=>(rec_under hok hS hJ).atJ hS)) Tryz.call170 .none rfl (zc rfl .nil) rfl rfl) ?_)))))
 refine kc (za rfl) (kD (kO (kr ?_)))
 refine kc (zm rfl) (kc (S.peqn Tryz.underlying119 .none rfl (zt rfl)) (kD (OK.cond rfl rfl (fun c12=>?_) (fun c12=>?_))))
 ·
  have hN:ix (fun v=>decide (v.p.place=0)) A.parts=none:=opt_none c12
  refine kr (kc (zi rfl rfl) (kD ?_))
  have hT:frameT A.plain (parseF t).1 (parseF t).2=(A.plain,12):=by unfold frameT;rw[hp4,hN]
  refine OK.resTo (J':=JX A.b (frameT A.plain (parseF t).1 (parseF t).2).1 (m+2)) rfl (JX.stable _ _ _) (fun h Y w hj=>HA.jx hok (by omega) hm (by rw[hT]) hj) ?_
  refine OK.ret ⟨Ret.r1 (zo rfl rfl) ?_,rfl,trivial⟩
  rw[hT]
 ·
  obtain⟨i,hpi⟩:∃i,ix (fun v=>decide (v.p.place=0)) A.parts=some i:=opt_someF c12
  obtain⟨v,hv⟩:=at_of_lt (ix_some hpi).1
  rw[optP_at hpi (HA.pb? hv)]
  refine OK.skip (Ab.D.code (kO ?_))
  have hux:=hp4.trans hpi
  have hlf:=hok.lf v (List.mem_of_getElem? hv)
  refine OK.reg (kc (zf fi170_1 rfl) (kc (zl ti103 rfl rfl rfl rfl) (kc (S.indexM (n:=0) si103 .none rfl (zt rfl) (.cint rfl) rfl (by exact Nat.succ_pos _) rfl) (kc (zV ti9 rfl rfl) (kc (S.callT (mon_ParseFrame (l:=t) (by omega)) hT Tryz.call171 .none rfl (zc rfl .nil) rfl) (kc (zm rfl) (kc (zX rfl rfl rfl) (kc (zX rfl rfl rfl) (RK.c (zA (c:=6) ze140 rfl) (kc (zS ti140 rfl rfl rfl rfl rfl rfl) (kc (za rfl) ?_)))))))))))
  refine kD (kO (kr ?_))
  refine kc (zm rfl) (kc (zE rfl rfl) (kD (kB rfl (fun c22=>?_) (fun c22=>?_))))
  ·
   refine OK.regionDraw follows (.c (zm rfl) (.c (zn rfl rfl) (.c (zr fi130_0 rfl) (.c (zr fi107_1 rfl) (.c (S.rloadN (us:=A.plan.cs) ti105 .none rfl (zt rfl) rfl (HeapJ.ldN (k:=.house) (xs:=A.cs) rfl ⟨.same _,.same _,trivial⟩ rfl)) (.c (zL ti140 rfl rfl rfl rfl) (.c (S.call (mon_CheckFrame) Tryz.call172 .none rfl (zc rfl (zc rfl .nil)) rfl) (.c (za rfl) .nil)))))))) (by kernel_rfl) ?_
   refine Ab.D.code (kO (kr ?_))
   refine kc (zm rfl) (kc (zN rfl rfl) (kD (kB rfl (fun c31=>?_) (fun c31=>?_))))
   ·
    rw[if_pos hpe]at c31
    have hT:frameT A.plain (parseF t).1 (parseF t).2=(A.plain,frameE A.plan (parseF t).1):=by rw[c22];exact frameT_1 hux c31
    refine kr (kc (zm rfl) (kc (za rfl) (kD (OK.resTo (J':=JX A.b (frameT A.plain (parseF t).1 (parseF t).2).1 (m+2)) rfl (JX.stable _ _ _) (fun h Y w hj=>HA.jx hok (by omega) hm (by rw[hT]) hj) ?_))))
    refine OK.ret ⟨Ret.r1 (zo rfl rfl) ?_,rfl,trivial⟩
    rw[hT,if_pos hpe]
   ·
    rw[if_pos hpe]at c31
    have hfe:frameE A.plan (parseF t).1=0:=Decidable.not_not.1 c31
    refine OK.skip (Ab.D.code (kO (OK.freezeP [] [(0,.raw (pV A.b)),(5,.raw (pV v.b)),(3000,.res (HeapJ A.mem))] 6 rfl rfl rfl rfl rfl rfl ⟨rfl,rfl,rfl,trivial⟩ rfl (OK.reg (kc (zm rfl) (kc (zn rfl rfl) (kc (zr fi123_0 rfl) (kc (zr fi68_3 rfl) (kc (S.rload1 (u:=.sl (v.p.frames.map Frame.cs)) ti62 .none rfl (zt rfl) rfl (HeapJ.ld1 (k:=.p i) (HA.atP? hv) rfl (.sl (hok.fs? hv)))) (kc (S.makeFunc1 .none rfl (zt rfl) rfl) (kc (S.call (rec_ixFrame (l:=v.p.frames) (f:=(parseF t).1)) Tryz.call173 .none rfl (zc rfl (zc rfl .nil)) rfl) ?_)))))))))))
    refine kc (za rfl) (kD (kO (OK.block (kr (kc (zm rfl) (kc (S.lss .none rfl (zt rfl) (.cint rfl)) (kc (za rfl) (kD (kB rfl (fun c40=>?_) (fun c40=>?_))))))))))
    ·
     have hN:frFound (A.plain.p i) (parseF t).1=none:=by
      rw[HA.p_at hv]
      rw[idx_ix]at c40
      unfold frFound
      cases h:ix (fun g:Frame=>decide (g.tick=(parseF t).1.tick)) v.p.frames with
      |none=>rfl
      |some k=>rw[h]at c40;simp at c40;omega
     have hT:frameT A.plain (parseF t).1 (parseF t).2=((A.plain.setP i fun p=>{p with frames:=p.frames++[(parseF t).1]}).addE i,0):=by rw[c22];exact frameT_n hux hfe hN
     refine OK.regionDrawX2 follows (ι:=(Nat×Nat)) (0,0) (x:=8) (fun q=>(.cs (zm rfl) (.cs (zm rfl) (.cs (zn rfl rfl) (.cs (zr fi123_0 rfl) (.cs (zr fi68_3 rfl) (.cs (S.rload1 ti62 .none rfl (zt rfl) rfl (HeapJ.ld1 (k:=.p i) (HA.atP? hv) rfl (.same _))) (.cs (S.loadN ti140 .none rfl (zt rfl) rfl rfl) (.cs (S.mkSlice (k:=50) (rows:=[[_,_]]) ai62 .none rfl (zc rfl .nil) rfl rfl rfl rfl rfl rfl rfl)
      (.x (rd:=[(48,.raw (v.fh.v v.p.frames.length)),(50,.own 50 1),(2050,.arr 2 [(parseF t).1.cs]),(3000,.res (HeapJ A.mem))]) (wr:=((51,.raw (.slice (some ⟨q.1,0,none⟩) ((v.p.frames.map Frame.cs).length+1) q.2))::(3000,.res (HeapJ (A.mem.set (.f i) (some (q.1,.gro 2 q.2 (v.p.frames.map Frame.cs++[(parseF t).1.cs]))))))::[])) (al:=[]) ⟨rfl,rfl,rfl,rfl,trivial⟩ (.cn (zn rfl rfl) (.cn (zr fi123_0 rfl) (.cn (zr fi68_3 rfl) (.cn (S.hstore (xs:=v.cs) (xs':=({v with fh:=some q,p:={v.p with frames:=v.p.frames++[(parseF t).1]}}:PartA).cs) (.p i) ti62 .none (zt rfl) (zt rfl) rfl ((HM.set_other _ _ (fun h=>by cases h)).trans (HA.atP? hv)) rfl rfl rfl rfl (partF_cs v q _)) .nil)))))))))))))) (S.happ (s:=[(48,.raw (v.fh.v v.p.frames.length)),(50,.own 50 1),(2050,.arr 2 [(parseF t).1.cs]),(3000,.res (HeapJ A.mem))]) (m:=1) (rows2:=[(parseF t).1.cs]) (.f i) ai62 rfl (zt rfl) (hok.fs? hv) (zt rfl) rfl rfl rfl (by decide) (by simp only[List.length_map];omega) (by simp only[List.length_map,maxLen];omega)).st (fun _=>by kernel_rfl) (fun q q' j h1 h2 h3=>by
       have h4:j<13:=h2
       rcases(show j=0∨j=1∨j=2∨j=3∨j=4∨j=5∨j=6∨j=7∨j=9∨j=10∨j=11∨j=12 by omega)with rfl|rfl|rfl|rfl|rfl|rfl|rfl|rfl|rfl|rfl|rfl|rfl<;>first|rfl|exact Bool.noConfusion ((show _=true by kernel_rfl).symm.trans h3)) (fun _=>rfl) rfl (fun q=>?_)
     refine Ab.D.blk (Ab.D.code (kO (OK.partF q (parseF t).1 hok (by omega) hv rfl fun A1 hL=>?_)))
     have hok1:=hL.ok
     obtain⟨v1,hv1,hvb1⟩:∃v1:PartA,A1.parts[i]?=some v1∧v1.b=v.b:=⟨_,hL.at_,rfl⟩
     have hb1:=hL.b
     have hT1:frameT A.plain (parseF t).1 (parseF t).2=(A1.plain.addE i,0):=by rw[hT,hL.plain]
     rw[←hvb1,←hb1]
     refine OK.regionDrawX2 follows (ι:=(Nat×Nat)) (0,0) (x:=10) (fun q=>(.cs (zm rfl) (.cs (zm rfl) (.cs (zn rfl rfl) (.cs (zr fi123_1 rfl) (.cs (S.rload1 ti47 .none rfl (zt rfl) rfl (HeapJ.ld1 (k:=.p i) (HA.atP? hv1) rfl (.same _))) (.cs (zm rfl) (.cs (zn rfl rfl) (.cs (zr fi130_7 rfl) (.cs (S.rload1 ti3 .none rfl (zt rfl) rfl (HeapJ.ld1 (k:=.house) rfl rfl (.same _))) (.cs (S.mkSlice (k:=78) (rows:=[[_]]) ai47 .none rfl (zc rfl .nil) rfl rfl rfl rfl rfl rfl rfl)
      (.x (rd:=[(73,.raw (v1.eh.v v1.es.length)),(78,.own 78 1),(2078,.arr 1 [[.int .i64 A1.entries]]),(3000,.res (HeapJ A1.mem))]) (wr:=((79,.raw (.slice (some ⟨q.1,0,none⟩) ((intRows v1.es).length+1) q.2))::(3000,.res (HeapJ (A1.mem.set (.e i) (some (q.1,.row 1 q.2 (intRows v1.es++[[X.int .i64 A1.entries]]))))))::[])) (al:=[]) ⟨rfl,rfl,rfl,rfl,trivial⟩ (.cn (zn rfl rfl) (.cn (zr fi123_1 rfl) (.cn (S.hstore (xs:=v1.cs) (xs':=({v1 with eh:=some q,es:=v1.es++[A1.entries]}:PartA).cs) (.p i) ti47 .none (zt rfl) (zt rfl) rfl ((HM.set_other _ _ (fun h=>by cases h)).trans (HA.atP? hv1)) rfl rfl rfl rfl (partE_cs v1 q _)) .nil))))))))))))))) (S.happR (s:=[(73,.raw (v1.eh.v v1.es.length)),(78,.own 78 1),(2078,.arr 1 [[.int .i64 A1.entries]]),(3000,.res (HeapJ A1.mem))]) (m:=1) (rows2:=[[.int .i64 A1.entries]]) (.e i) ai47 rfl (zt rfl) (hok1.es? hv1) (zt rfl) rfl rfl rfl (by decide) (by simp only[intRows,List.length_map];have:=hok1.le _ (List.mem_of_getElem? hv1);have:=hok1.m0;omega) (by simp only[intRows,List.length_map,maxLen];have:=hok1.le _ (List.mem_of_getElem? hv1);have:=hok1.m0;omega)).st (fun _=>by kernel_rfl) (fun q q' j h1 h2 h3=>by
       have h4:j<14:=h2
       rcases(show j=0∨j=1∨j=2∨j=3∨j=4∨j=5∨j=6∨j=7∨j=8∨j=9∨j=11∨j=12∨j=13 by omega)with rfl|rfl|rfl|rfl|rfl|rfl|rfl|rfl|rfl|rfl|rfl|rfl|rfl<;>first|rfl|exact Bool.noConfusion ((show _=true by kernel_rfl).symm.trans h3)) (fun _=>rfl) rfl (fun q=>?_)
     refine Ab.D.code (kO (OK.partE q _ hok1 (by omega) hv1 rfl rfl fun A2 hL2=>?_))
     refine OK.reg (kc (zi rfl rfl) (kD (OK.resTo (J':=JX A1.b (frameT A.plain (parseF t).1 (parseF t).2).1 (m+2)) rfl (JX.stable _ _ _) (fun h Y w hj=>jx_of hL2.ok (by omega) hm hL2.b (by rw[hL2.plain,hT1]) hj) ?_)))
     refine OK.ret ⟨Ret.r1 (zo rfl rfl) ?_,rfl,trivial⟩
     rw[hT1]
    ·
     obtain⟨k,hk⟩:∃k,ix (fun g:Frame=>decide (g.tick=(parseF t).1.tick)) v.p.frames=some k:=by
      rw[idx_ix]at c40
      cases h:ix (fun g:Frame=>decide (g.tick=(parseF t).1.tick)) v.p.frames with
      |none=>rw[h]at c40;simp at c40
      |some k=>exact⟨k,rfl⟩
     obtain⟨hkl,_⟩:=ix_some hk
     have hik:idxGo (fun g:Frame=>decide (g.tick=(parseF t).1.tick)) 0 v.p.frames=(k:Int):=by rw[idx_ix,hk]
     have hT3:frameT A.plain (parseF t).1 (parseF t).2=if v.p.frames[k].values=(parseF t).1.values then(A.plain.addE i,0)else(A.plain,13):=by rw[c22];exact frameT_s hux hfe (by rw[HA.p_at hv];exact hk) (by rw[HA.p_at hv];exact List.getElem?_eq_getElem hkl)
     refine kO (OK.regionDraw follows (.c (zm rfl) (.c (zn rfl rfl) (.c (zr fi123_0 rfl) (.c (zr fi68_3 rfl) (.c (S.rload1 (u:=.sl (v.p.frames.map Frame.cs)) ti62 .none rfl (zt rfl) rfl (HeapJ.ld1 (k:=.p i) (HA.atP? hv) rfl (.sl (hok.fs? hv)))) (.c (zm rfl) (.c (S.indexM (n:=k) si62 .none rfl (zt rfl) (zt rfl) hik hkl rfl) (.c (S.field fi140_1 .none rfl (zt rfl) rfl) (.c (zV ti47 rfl rfl) (.c (S.field fi140_1 .none rfl (zt rfl) rfl) (.c (zV ti47 rfl rfl) (.c (S.call (lib_EqualInts) Tryz.call175 .none rfl (zc rfl (zc rfl .nil)) rfl) (.c (S.notD .none rfl (zt rfl)) (.c (za rfl) .nil)))))))))))))) (by kernel_rfl) ?_)
     refine Ab.D.code (kB rfl (fun c55=>?_) (fun c55=>?_))
     ·
      have hT:=hT3.trans (if_neg (by simpa using c55))
      refine kr (kc (zi rfl rfl) (kD (OK.resTo (J':=JX A.b (frameT A.plain (parseF t).1 (parseF t).2).1 (m+2)) rfl (JX.stable _ _ _) (fun h Y w hj=>HA.jx hok (by omega) hm (by rw[hT]) hj) ?_)))
      refine OK.ret ⟨Ret.r1 (zo rfl rfl) ?_,rfl,trivial⟩
      rw[hT]
     ·
      have hT:=hT3.trans (if_pos (by simpa using c55))
      refine OK.skip (Ab.D.blk (Ab.D.code (kO ?_)))
      obtain⟨A1,hA1⟩:∃A1,A1=A:=⟨_,rfl⟩
      have hb1:A1.b=A.b:=by rw[hA1]
      have hok1:A1.Ok (m+1):=by rw[hA1];exact hok.more (by omega) (by omega)
      obtain⟨v1,hv1,hvb1⟩:∃v1:PartA,A1.parts[i]?=some v1∧v1.b=v.b:=⟨v,by rw[hA1];exact hv,rfl⟩
      have hT1:frameT A.plain (parseF t).1 (parseF t).2=(A1.plain.addE i,0):=by rw[hT,hA1]
      rw[show A.mem=A1.mem by rw[hA1]]
      rw[←hvb1,←hb1]
      refine OK.regionDrawX2 follows (ι:=(Nat×Nat)) (0,0) (x:=10) (fun q=>(.cs (zm rfl) (.cs (zm rfl) (.cs (zn rfl rfl) (.cs (zr fi123_1 rfl) (.cs (S.rload1 ti47 .none rfl (zt rfl) rfl (HeapJ.ld1 (k:=.p i) (HA.atP? hv1) rfl (.same _))) (.cs (zm rfl) (.cs (zn rfl rfl) (.cs (zr fi130_7 rfl) (.cs (S.rload1 ti3 .none rfl (zt rfl) rfl (HeapJ.ld1 (k:=.house) rfl rfl (.same _))) (.cs (S.mkSlice (k:=78) (rows:=[[_]]) ai47 .none rfl (zc rfl .nil) rfl rfl rfl rfl rfl rfl rfl)
       (.x (rd:=[(73,.raw (v1.eh.v v1.es.length)),(78,.own 78 1),(2078,.arr 1 [[.int .i64 A1.entries]]),(3000,.res (HeapJ A1.mem))]) (wr:=((79,.raw (.slice (some ⟨q.1,0,none⟩) ((intRows v1.es).length+1) q.2))::(3000,.res (HeapJ (A1.mem.set (.e i) (some (q.1,.row 1 q.2 (intRows v1.es++[[X.int .i64 A1.entries]]))))))::[])) (al:=[]) ⟨rfl,rfl,rfl,rfl,trivial⟩ (.cn (zn rfl rfl) (.cn (zr fi123_1 rfl) (.cn (S.hstore (xs:=v1.cs) (xs':=({v1 with eh:=some q,es:=v1.es++[A1.entries]}:PartA).cs) (.p i) ti47 .none (zt rfl) (zt rfl) rfl ((HM.set_other _ _ (fun h=>by cases h)).trans (HA.atP? hv1)) rfl rfl rfl rfl (partE_cs v1 q _)) .nil))))))))))))))) (S.happR (s:=[(73,.raw (v1.eh.v v1.es.length)),(78,.own 78 1),(2078,.arr 1 [[.int .i64 A1.entries]]),(3000,.res (HeapJ A1.mem))]) (m:=1) (rows2:=[[.int .i64 A1.entries]]) (.e i) ai47 rfl (zt rfl) (hok1.es? hv1) (zt rfl) rfl rfl rfl (by decide) (by simp only[intRows,List.length_map];have:=hok1.le _ (List.mem_of_getElem? hv1);have:=hok1.m0;omega) (by simp only[intRows,List.length_map,maxLen];have:=hok1.le _ (List.mem_of_getElem? hv1);have:=hok1.m0;omega)).st (fun _=>by kernel_rfl) (fun q q' j h1 h2 h3=>by
        have h4:j<14:=h2
        rcases(show j=0∨j=1∨j=2∨j=3∨j=4∨j=5∨j=6∨j=7∨j=8∨j=9∨j=11∨j=12∨j=13 by omega)with rfl|rfl|rfl|rfl|rfl|rfl|rfl|rfl|rfl|rfl|rfl|rfl|rfl<;>first|rfl|exact Bool.noConfusion ((show _=true by kernel_rfl).symm.trans h3)) (fun _=>rfl) rfl (fun q=>?_)
      refine Ab.D.code (kO (OK.partE q _ hok1 (by omega) hv1 rfl rfl fun A2 hL2=>?_))
      refine OK.reg (kc (zi rfl rfl) (kD (OK.resTo (J':=JX A1.b (frameT A.plain (parseF t).1 (parseF t).2).1 (m+2)) rfl (JX.stable _ _ _) (fun h Y w hj=>jx_of hL2.ok (by omega) hm hL2.b (by rw[hL2.plain,hT1]) hj) ?_)))
      refine OK.ret ⟨Ret.r1 (zo rfl rfl) ?_,rfl,trivial⟩
      rw[hT1]
  ·
   refine OK.skip (Ab.D.code (kO (kr ?_)))
   refine kc (zm rfl) (kc (zN rfl rfl) (kD (kB rfl (fun c31=>?_) (fun c31=>?_))))
   ·
    have hT:=frameT_0 (f:=(parseF t).1) hux c31
    refine kr (kc (zm rfl) (kc (za rfl) (kD (OK.resTo (J':=JX A.b (frameT A.plain (parseF t).1 (parseF t).2).1 (m+2)) rfl (JX.stable _ _ _) (fun h Y w hj=>HA.jx hok (by omega) hm (by rw[hT]) hj) ?_))))
    refine OK.ret ⟨Ret.r1 (zo rfl rfl) ?_,rfl,trivial⟩
    rw[hT]
   ·
    exact absurd c22 c31
theorem rec_ixPart{A:HA}{m:Int}(hok:A.Ok m){i:Nat}{v:PartA}(hv:A.parts[i]?=some v){J:Mem→(Nat→Prop)→World→Prop}(hS:Stable J)(hJ:∀h Y w,J h Y w→HeapJ A.mem h Y w):CtG Tryz.prog 245 [] [.sl (A.models.map fun i=>[X.raw (pV (A.pb i))]),.raw (pV v.b)] [(3000,.res J)] [(3000,.res J)] (.int .i64 (idxGo (fun k=>decide (i=k)) 0 A.models)):=by
 refine CtG.intro (rs:=[.tmp 4]) Tryz.func245 rfl Tryz.ntmps245 Tryz.results245 rfl rfl rfl rfl fun w h=>?_
 have hlm:=hok.lm
 have hm0:=hok.m0
 refine OK.resFact (p:=∀i j,i<A.parts.length→j<A.parts.length→A.pb i=A.pb j→i=j) rfl (fun h Y w hj=>HA.pb_inj (hJ h Y w hj)) fun hinj=>?_
 refine kr (kc (zi rfl rfl) (kD (kO (kr ?_))))
 refine kc (zm rfl) (kc (zk si128 rfl) (kc (S.move .none rfl (.cint rfl)) (kD (OK.block (OK.loop (G:=Nat) [] (fun k=>[(0,.sl (A.models.map fun i=>[X.raw (pV (A.pb i))])),(1,.raw (pV v.b)),(7,.int .i64 A.models.length),(8,.int .i64 k),(3000,.res J)]) (fun k=>k≤A.models.length∧idxGo (fun k=>decide (i=k)) 0 A.models=idxGo (fun k=>decide (i=k)) k (A.models.drop k)) (fun k=>A.models.length - k) 0 ⟨Nat.zero_le _,rfl⟩ ⟨rfl,rfl,rfl,rfl,rfl,trivial⟩ (fun _=>rfl) ?_)))))
 rintro k ⟨hi,hg⟩
 refine kr (kc (S.lss .none rfl (zt rfl) (zt rfl)) (kD (kO (kB rfl (fun c9=>?_) (fun c9=>?_)))))
 ·
  have hil:k<A.models.length:=by omega
  have hmk:=hok.mi _ (List.getElem_mem hil)
  obtain⟨vk,hvk⟩:=at_of_lt hmk
  refine OK.skip (Ab.D.code (kO (OK.block (kr (kc (zm rfl) (kc (za rfl) (kq (kc (zm rfl) (kc (zm rfl) (kc (zm rfl) (kc (S.indexM (n:=k) si128 .none rfl (zt rfl) (zt rfl) rfl (by omega) rfl) ?_)))))))))))
  refine kc (zV ti119 rfl rfl) (kc (S.hpeq hJ (.p i) (.p A.models[k]) ti123 Tryz.underlying119 (by decide) .none rfl (zt rfl) (zt rfl) rfl (HA.atP? hv) (HA.atPb hvk)) (kD (kB rfl (fun c16=>?_) (fun c16=>?_))))
  ·
   have hik:i=A.models[k]:=hinj _ _ (lt_of_at hv) hmk (by rw[HA.pb? hv];exact c16)
   refine kr (kc (zm rfl) (kc (za rfl) (kD (OK.ret ⟨Ret.r1 (zo rfl rfl) ?_,rfl,trivial⟩))))
   refine ret_i ?_
   rw[hg,idxGo_drop _ (by omega),if_pos (by simpa using hik)]
  ·
   have hik:¬i=A.models[k]:=fun e=>c16 (by rw[←HA.pb? hv,e])
   refine OK.skip (Ab.D.blk (Ab.D.code (OK.reg ?_)))
   refine kc (zp rfl rfl (by omega)) (kc (zm rfl) (RK.nil (Ab.D.lp ⟨k+1,⟨by omega,?_⟩,(by omega),rfl,rfl,rfl,rfl,rfl,trivial⟩)))
   rw[hg,idxGo_drop _ (by omega)]
   simp_all
 ·
  refine OK.exit rfl (kp (kc (zi rfl rfl) (kD (OK.ret ⟨Ret.r1 (zo rfl rfl) ?_,rfl,trivial⟩))))
  refine ret_i ?_
  have:k=A.models.length:=by omega
  subst this
  rw[hg,List.drop_length]
  rfl
theorem rec_ctPart{A:HA}{m:Int}(hok:A.Ok m){i:Nat}{v:PartA}(hv:A.parts[i]?=some v){J:Mem→(Nat→Prop)→World→Prop}(hS:Stable J)(hJ:∀h Y w,J h Y w→HeapJ A.mem h Y w):CtG Tryz.prog 190 [] [.sl (A.models.map fun i=>[X.raw (pV (A.pb i))]),.raw (pV v.b)] [(3000,.res J)] [(3000,.res J)] (.bool (A.models.contains i)):=by
 refine CtG.intro (rs:=[.tmp 4]) Tryz.func190 rfl Tryz.ntmps190 Tryz.results190 rfl rfl rfl rfl fun w h=>?_
 refine kr (kc (zb rfl) (kq (kc (zm rfl) (kc (zm rfl) (RK.c (S.callJ (((rec_ixPart hok hv hS hJ).atJ hS)) hS Tryz.call245 .none rfl (zc rfl (zc rfl .nil)) rfl rfl) (kc (S.geq .none rfl (zt rfl) (.cint rfl)) (kc (za rfl) (kD (OK.ret ⟨Ret.r1 (zo rfl rfl) ?_,rfl,trivial⟩)))))))))
 refine ret_b ?_
 exact models_has A.models i
set_option maxHeartbeats 1000000 in
theorem rec_model1{A:HA}{m:Int}(hok:A.Ok m)(hm:m+2≤1000){i:Nat}{v:PartA}(hv:A.parts[i]?=some v):CtG Tryz.prog 189 [] [.raw (pV v.b),.eptr [.raw (pV A.b)]] [(3000,.res (HeapJ A.mem))] [(3000,.res (JP A (modelT A.plain i).1 (m+1)))] (.int .i64 (modelT A.plain i).2):=by
 refine CtG.intro (rs:=[.tmp 3]) Tryz.func189 rfl Tryz.ntmps189 Tryz.results189 rfl rfl rfl rfl fun w h=>?_
 have hp:=HA.p_at hv
 have hlm:=hok.lm
 have hm0:=hok.m0
 obtain⟨e,he⟩:∃e,firstE [unlessE (decide (v.p.place≠0)) 20,unlessE (wholeP A.plan v.p) 14,unlessE (!A.models.contains i) 23]=e:=⟨_,rfl⟩
 have hTn:modelT A.plain i=if e=0 then({A.plain with models:=A.plain.models++[i]},0)else(A.plain,e):=by unfold modelT;dsimp only;rw[hp,←he];rfl
 refine kr (kc (zi rfl rfl) (kD (kO (OK.regionDraw follows (.c (zm rfl) (.c (zn rfl rfl) (.c (zr fi123_0 rfl) (.c (zr fi68_4 rfl) (.c (S.rload1 ti3 .none rfl (zt rfl) rfl (HeapJ.ld1 (k:=.p i) (HA.atP? hv) rfl (.same _))) (.c (zN rfl rfl) (.c (S.call (record_unless) Tryz.call58 .none rfl (zc rfl (.cons (.cint rfl) .nil)) rfl) (.c (zV ti113 rfl rfl) (.c (zm rfl) (.c (S.callR ((fun J hS hJ=>(rec_isWhole hok hv hS hJ).atJ hS)) Tryz.call178 .none rfl (zc rfl (zc rfl .nil)) rfl rfl) (.c (S.call (record_unless) Tryz.call58 .none rfl (zc rfl (.cons (.cint rfl) .nil)) rfl) (.c (zV ti113 rfl rfl) (.c (zn rfl rfl) (.c (zr fi130_4 rfl) (.c (S.rload1 (u:=.sl (A.models.map fun i=>[X.raw (pV (A.pb i))])) ti128 .none rfl (zt rfl) rfl (HeapJ.ld1 (k:=.house) rfl rfl (.sl hok.ms))) (.c (zm rfl) (.c (S.callR ((fun J hS hJ=>(rec_ctPart hok hv hS hJ).atJ hS)) Tryz.call190 .none rfl (zc rfl (zc rfl .nil)) rfl rfl) (.c (S.not .none rfl (zt rfl)) (.c (S.call (record_unless) Tryz.call58 .none rfl (zc rfl (.cons (.cint rfl) .nil)) rfl) (.c (S.mkSlice (k:=24) (rows:=[[_],[_],[_]]) ai184 .none rfl (zc rfl (zc rfl (zc rfl .nil))) rfl rfl rfl rfl rfl rfl rfl) (.c (S.callL (record_first (l:=[_,_,_])) Tryz.call57 .none rfl (zc rfl .nil) (.cons (.p (.own rfl rfl) rfl) .nil) rfl) (.c (za rfl) .nil)))))))))))))))))))))) (by kernel_rfl) ?_))))
 refine Ab.D.code (kO (kr ?_))
 refine kc (zm rfl) (kc (zE rfl rfl) (kD (kB rfl (fun c27=>?_) (fun c27=>?_))))
 ·
  have hEe:e=0:=by rw[←he];exact c27
  have hT:=hTn.trans (if_pos hEe)
  refine OK.regionDrawX2 follows (ι:=(Nat×Nat)) (0,0) (x:=7) (fun q=>(.cs (zV ti113 rfl rfl) (.cs (zV ti113 rfl rfl) (.cs (zn rfl rfl) (.cs (zr fi130_4 rfl) (.cs (S.rload1 ti128 .none rfl (zt rfl) rfl (HeapJ.ld1 (k:=.house) rfl rfl (.same _))) (.cs (zm rfl) (.cs (S.mkSlice (k:=34) (rows:=[[.raw (pV v.b)]]) ai128 .none rfl (zc rfl .nil) rfl rfl rfl rfl rfl rfl rfl)
   (.x (rd:=[(32,.raw (A.mh.v A.models.length)),(34,.own 34 1),(2034,.arr 1 [[.raw (pV v.b)]]),(3000,.res (HeapJ A.mem))]) (wr:=((35,.raw (.slice (some ⟨q.1,0,none⟩) ((A.models.map fun i=>[X.raw (pV (A.pb i))]).length+1) q.2))::(3000,.res (HeapJ (A.mem.set .ms (some (q.1,.gro 1 q.2 ((A.models.map fun i=>[X.raw (pV (A.pb i))])++[[X.raw (pV v.b)]]))))))::[])) (al:=[]) ⟨rfl,rfl,rfl,rfl,trivial⟩ (.cn (zn rfl rfl) (.cn (zr fi130_4 rfl) (.cn (S.hstore (xs:=A.cs) (xs':=(A.newM i q).cs) (.house) ti128 .none (zt rfl) (zt rfl) rfl ((HM.set_other _ _ (fun h=>by cases h)).trans A.atH) rfl rfl rfl rfl (newM_cs A i q)) .nil)))))))))))) (S.happ (s:=[(32,.raw (A.mh.v A.models.length)),(34,.own 34 1),(2034,.arr 1 [[.raw (pV v.b)]]),(3000,.res (HeapJ A.mem))]) (m:=1) (rows2:=[[.raw (pV v.b)]]) .ms ai128 rfl (zt rfl) hok.ms (zt rfl) rfl rfl rfl (by decide) (by simp only[List.length_map];omega) (by simp only[List.length_map,maxLen];omega)).st (fun _=>by kernel_rfl) (fun q q' j h1 h2 h3=>by
    have h4:j<11:=h2
    rcases(show j=0∨j=1∨j=2∨j=3∨j=4∨j=5∨j=6∨j=8∨j=9∨j=10 by omega)with rfl|rfl|rfl|rfl|rfl|rfl|rfl|rfl|rfl|rfl<;>first|rfl|exact Bool.noConfusion ((show _=true by kernel_rfl).symm.trans h3)) (fun _=>rfl) rfl (fun q=>?_)
  refine Ab.D.code (kO ?_)
  rw[←HA.pb? hv]
  refine OK.newM (lt_of_at hv) hok (by omega) rfl fun A1 hok1 hb1 hpb1 hpa1 hpl1=>?_
  refine OK.reg (kc (zm rfl) (kc (za rfl) (kD (OK.resTo (J':=JP A (modelT A.plain i).1 (m+1)) rfl (JP.stable _ _ _) (fun h Y w hj=>⟨A1,⟨hok1,hb1,hpb1,by rw[hpa1],by rw[hpl1,hT]⟩,hj⟩) ?_))))
  refine OK.ret ⟨Ret.r1 (zo rfl rfl) ?_,rfl,trivial⟩
  rw[hT]
  exact ret_i (he.trans hEe)
 ·
  have hEe:¬e=0:=by rw[←he];exact c27
  have hT:=hTn.trans (if_neg hEe)
  refine OK.skip (kp (kc (zm rfl) (kc (za rfl) (kD (OK.resTo (J':=JP A (modelT A.plain i).1 (m+1)) rfl (JP.stable _ _ _) (fun h Y w hj=>HA.jp hok (by omega) (by omega) (by rw[hT]) hj) ?_)))))
  refine OK.ret ⟨Ret.r1 (zo rfl rfl) ?_,rfl,trivial⟩
  rw[hT]
  exact ret_i he
theorem modelT_ent(A:HA)(i:Nat):(modelT A.plain i).1.entries=A.entries:=by unfold modelT;dsimp only;split<;>rfl
theorem rec_model{A:HA}{m:Int}(hok:A.Ok m)(hm:m+2≤1000){n:Int}:CtGT Tryz.prog 122 [] [.raw (pV A.b),.agg (Words.mk [n] []).cs] [(3000,.res (HeapJ A.mem))] [(3000,.res (JX A.b (aboutT A.plain n modelT).1 (m+2)))] (.int .i64 (aboutT A.plain n modelT).2):=by
 refine CtGT.intro (rs:=[.tmp 4]) Tryz.func122 rfl Tryz.ntmps122 Tryz.results122 rfl rfl rfl rfl fun w h hT=>?_
 refine kr (RK.c (zB (c:=2) rfl rfl) (RK.c (zB (c:=3) rfl rfl) (kc (zi rfl rfl) (kD (kO (OK.freezeP [3] [(3,.ptr 3 0),(1003,.box (Words.mk [n] []).cs),(3000,.res (HeapJ A.mem))] 2 rfl rfl rfl rfl rfl rfl ⟨rfl,rfl,rfl,trivial⟩ rfl (OK.reg (kc (zV ti113 rfl rfl) (kc (zL ti170 rfl rfl rfl rfl) (kc (S.makeFunc1 .none rfl (zt rfl) rfl) (RK.c (S.callJ (((rec_about hok hm (n:=n) (tx:=[]) (f:=189) (caps:=[.eptr [.raw (pV A.b)]]) Tryz.call189 rfl rfl (F:=modelT) (fun i v hv _=>(rec_model1 hok hm hv).toT) (fun i=>modelT_ent A i)).atJ hT (HeapJ.stable _))) (JX.stable _ _ _) Tryz.call179 .none rfl (zc rfl (zc rfl (zc rfl .nil))) rfl rfl) ?_)))))))))))
 refine kc (za rfl) (kD (OK.ret ⟨Ret.r1 (zo rfl rfl) ?_,rfl,trivial⟩))
 rfl
end Go.Proofs.YtpbalelbenmmbaaGreatDoor
