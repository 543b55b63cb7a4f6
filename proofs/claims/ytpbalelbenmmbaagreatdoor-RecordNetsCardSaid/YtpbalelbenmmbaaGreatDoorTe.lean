import Derived.Test.YtpbalelbenmmbaaGreatDoorHz
import Derived.Test.YtpbalelbenmmbaaGreatDoorGh
import Derived.Test.YtpbalelbenmmbaaGreatDoorHo
import Derived.Test.YtpbalelbenmmbaaGreatDoorMh
import Derived.Test.YtpbalelbenmmbaaGreatDoorRs
import Derived.Test.YtpbalelbenmmbaaGreatDoorTb
import Derived.Test.YtpbalelbenmmbaaGreatDoorTy
namespace Go.Proofs.YtpbalelbenmmbaaGreatDoor
open Go.Ab
def verN(H:House)(name:List UInt8):Int:=match(H.vIx name).bind (H.vers[·]?)with|some q=>q.1.ver+1|none=>1
def rcpE(H:House)(rest:List UInt8):Int:=firstE [(rcpP rest).2,unlessE (decide ((H.vers.length:Int)<6)) 16]
theorem recipeT_4{H:House}{name rest:List UInt8}(h:nameOk name=false):recipeT H name rest=(H,4):=if_pos h
theorem recipeT_e{H:House}{name rest:List UInt8}(h:nameOk name=true)(he:rcpE H rest≠0):recipeT H name rest=(H,rcpE H rest):=by
 unfold recipeT
 rw[if_neg (by rw[h];decide)]
 exact if_pos he
theorem recipeT_0{H:House}{name rest:List UInt8}(h:nameOk name=true)(he:rcpE H rest=0):recipeT H name rest=({H with vers:=H.vers++[(⟨name,verN H name,(rcpP rest).1⟩,H.entries)]},0):=by
 unfold recipeT
 rw[if_neg (by rw[h];decide)]
 exact if_neg (not_not_intro he)
theorem asc_print{l:List UInt8}(h:l.all isPrint=true):Asc l:=fun b hb=>by
 have h1:=List.all_eq_true.1 h b hb
 have h2:=of_decide_eq_true (show decide (32≤(b.toNat:Int)∧(b.toNat:Int)≤126)=true from h1)
 omega
set_option maxHeartbeats 2000000 in
theorem rec_newRecipe{A:HA}{m:Int}(hok:A.Ok m)(hm:m+2≤1000){name rest:List UInt8}(hrl:rest.length≤600)(hra:Asc rest):CtGT Tryz.prog 121 [] [.raw (pV A.b),.agg (Words.mk [] [name,rest]).cs] [(3000,.res (HeapJ A.mem))] [(3000,.res (JX A.b (recipeT A.plain name rest).1 (m+2)))] (.int .i64 (recipeT A.plain name rest).2):=by
 refine CtGT.intro (rs:=[.tmp 4]) Tryz.func121 rfl Tryz.ntmps121 Tryz.results121 rfl rfl rfl rfl fun w h hT=>?_
 have hen:=hok.en
 have hlv:=hok.lv
 have hm0:=hok.m0
 have hp2:=HA.vIx_plain A name
 have hpl:(A.plain.vers.length:Int)=A.vers.length:=by show((A.vers.map _).length:Int)=_;rw[List.length_map]
 refine kr (RK.c (zB (c:=3) rfl rfl) (kc (zi rfl rfl) (kq (kc (zf fi170_1 rfl) (kc (zl ti103 rfl rfl rfl rfl) (kc (S.indexM (n:=0) si103 .none rfl (zt rfl) (.cint rfl) rfl (by exact Nat.succ_pos _) rfl) (kc (zV ti9 rfl rfl) (kc (za rfl) (kD (kO (kr ?_)))))))))))
 refine kc (zm rfl) (kc (S.call (rec_isName) Tryz.call65 .none rfl (zc rfl .nil) rfl) (kc (S.not .none rfl (zt rfl)) (kD (OK.cond rfl rfl (fun c17=>?_) (fun c17=>?_)))))
 ·
  have hno:nameOk name=false:=by simpa using c17
  have hT:=recipeT_4 (H:=A.plain) (rest:=rest) hno
  refine kr (kc (zi rfl rfl) (kD (OK.resTo (J':=JX A.b (recipeT A.plain name rest).1 (m+2)) rfl (JX.stable _ _ _) (fun h Y w hj=>HA.jx hok (by omega) hm (by rw[hT]) hj) ?_)))
  refine OK.ret ⟨Ret.r1 (zo rfl rfl) ?_,rfl,trivial⟩
  rw[hT]
 ·
  have hno:nameOk name=true:=by simpa using c17
  refine OK.skip (kp (kc (zf fi170_1 rfl) (kc (zl ti103 rfl rfl rfl rfl) (kc (S.indexM (n:=1) si103 .none rfl (zt rfl) (.cint rfl) rfl (by exact Nat.one_lt_two) rfl) (kc (zV ti9 rfl rfl) (kc (S.callT (rcp_ParseRecipe (s:=rest) (by omega) hra) hT Tryz.call188 .none rfl (zc rfl .nil) rfl) (kc (zm rfl) (kc (zX rfl rfl rfl) (kc (zX rfl rfl rfl) (kc (za rfl) (kc (za rfl) ?_)))))))))))
  refine kD (kO (kr ?_))
  refine kc (zm rfl) (kc (zm rfl) (kc (zn rfl rfl) (kc (zr fi130_1 rfl) (kc (S.rload1 (u:=.sl (A.vers.map vRow)) ti125 .none rfl (zt rfl) rfl (HeapJ.ld1 (k:=.house) rfl rfl (.sl hok.vs))) (kc (zk si125 rfl) (kc (S.lss .none rfl (zt rfl) (.cint rfl)) (kc (S.call (record_unless) Tryz.call58 .none rfl (zc rfl (.cons (.cint rfl) .nil)) rfl) (RK.c (S.mkSlice (k:=34) (rows:=[[_],[_]]) ai184 .none rfl (zc rfl (zc rfl .nil)) rfl rfl rfl rfl rfl rfl rfl) (kc (S.callL (record_first (l:=[_,_])) Tryz.call57 .none rfl (zc rfl .nil) (.cons (.p (.own rfl rfl) rfl) .nil) rfl) (kc (za rfl) (kq ?_)))))))))))
  refine kc (zm rfl) (kc (zN rfl rfl) (kD (kB rfl (fun c37=>?_) (fun c37=>?_))))
  ·
   have hEe:rcpE A.plain rest≠0:=by unfold rcpE;rw[hpl];exact c37
   have hT:=recipeT_e hno hEe
   refine kr (kc (zm rfl) (kc (za rfl) (kD (OK.resTo (J':=JX A.b (recipeT A.plain name rest).1 (m+2)) rfl (JX.stable _ _ _) (fun h Y w hj=>HA.jx hok (by omega) hm (by rw[hT]) hj) ?_))))
   refine OK.ret ⟨Ret.r1 (zo rfl rfl) ?_,rfl,trivial⟩
   rw[hT]
   refine ret_i ?_
   unfold rcpE
   rw[hpl]
  ·
   have hEe:rcpE A.plain rest=0:=by unfold rcpE;rw[hpl];exact Decidable.not_not.1 c37
   have hT:=recipeT_0 hno hEe
   refine OK.skip (kp (kc (zi rfl rfl) (kD (OK.join (G:=Int) [] (fun nv=>[(0,.raw (pV A.b)),(5,.str name),(6,.sl ((rcpP rest).1.map Ph.cs)),(8,.int .i64 nv),(3000,.res (HeapJ A.mem))]) (fun nv=>nv=verN A.plain name∧0≤nv∧nv≤m+1) (fun _=>rfl) ?_ ?_))))
   ·
    refine kr (kc (zm rfl) (kc (zm rfl) (kc (S.callR ((fun J hS hJ=>(rec_recipe hok (n:=name) hS hJ).atJ hS)) Tryz.call101 .none rfl (zc rfl (zc rfl .nil)) rfl rfl) ?_)))
    refine kc (za rfl) (kq (kc (zm rfl) (kc (S.pnen Tryz.underlying126 .none rfl (zt rfl)) (kD (OK.cond rfl rfl (fun c43=>?_) (fun c43=>?_))))))
    ·
     obtain⟨k,hk⟩:∃k,lastIx (fun v=>decide (v.r.name=name)) A.vers=some k:=Option.isSome_iff_exists.1 ((optS _ _).symm.trans c43)
     obtain⟨hk1,_⟩:=lastIx_some hk
     obtain⟨vv,hvv⟩:=at_of_lt hk1
     have hvb:=hok.vb vv (List.mem_of_getElem? hvv)
     rw[optP_at hk (HA.vb? hvv)]
     have hvn:verN A.plain name=vv.r.ver+1:=by unfold verN;rw[hp2,hk];simp only[Option.bind_some,HA.plain_ver hvv]
     refine OK.reg (kc (zm rfl) (kc (zn rfl rfl) (kc (zr fi135_0 rfl) (kc (zr fi133_0 rfl) (kc (zr fi59_1 rfl) (kc (S.rload1 ti3 .none rfl (zt rfl) rfl (HeapJ.ld1 (k:=.v k) (HA.atV? hvv) rfl (.same _))) (kc (zp rfl rfl (by omega)) (kc (za rfl) (RK.nil (Ab.D.lp ⟨(vv.r.ver+1),⟨hvn.symm,by omega,by omega⟩,rfl,rfl,rfl,rfl,rfl,trivial⟩))))))))))
    ·
     have hN:lastIx (fun v=>decide (v.r.name=name)) A.vers=none:=by
      cases h:lastIx (fun v=>decide (v.r.name=name)) A.vers with
      |none=>rfl
      |some k=>rw[h]at c43;exact absurd c43 (by simp)
     have hvn:verN A.plain name=1:=by unfold verN;rw[hp2,hN];rfl
     refine OK.skip (Ab.D.lp ⟨1,⟨hvn.symm,by omega,by omega⟩,rfl,rfl,rfl,rfl,rfl,trivial⟩)
   ·
    rintro nv ⟨hnv,hn0,hn1⟩
    refine kr (kc (zm rfl) (kc (zm rfl) (kc (S.build bu59 rfl .none rfl (zc rfl (zc rfl .nil)) rfl rfl) (RK.c (zA (c:=10) ze59 rfl) (kc (zS ti59 rfl rfl rfl rfl rfl rfl) (kD (kO ?_)))))))
    refine OK.regionDrawX2 follows (ι:=(Nat×Nat×Nat)) (0,0,0) (x:=15) (fun q=>(.cs (zm rfl) (.cs (zm rfl) (.cs (zn rfl rfl) (.cs (zr fi130_1 rfl) (.cs (S.rload1 ti125 .none rfl (zt rfl) rfl (HeapJ.ld1 (k:=.house) rfl rfl (.same _))) (.cs (zL ti59 rfl rfl rfl rfl) (.cs (zm rfl) (.cs (S.build bu133 rfl .none rfl (zc rfl (zc rfl .nil)) rfl rfl) (.cs (zm rfl) (.cs (zn rfl rfl) (.cs (zr fi130_7 rfl) (.cs (S.rload1 ti3 .none rfl (zt rfl) rfl (HeapJ.ld1 (k:=.house) rfl rfl (.same _))) (.cs (S.build bu135 rfl .none rfl (zc rfl (zc rfl .nil)) rfl rfl) (.cs (S.boxA (k:=67) rfl .none rfl (zt rfl) rfl) (.cs (S.mkSliceP (k:=68) ai125 .none rfl (zt rfl) rfl)
     (.x (rd:=[(58,.raw (A.vh.v A.vers.length)),(68,.own 68 1),(2068,.arrn 1 [] [.optr 67 1 0] []),(2067,.arrn 4 [] [.str name,.int .i64 nv,.sl ((rcpP rest).1.map Ph.cs),.int .i64 A.entries] []),(3000,.res (HeapJ A.mem))]) (wr:=((69,.raw (.slice (some ⟨q.2.1,0,none⟩) ((A.vers.map vRow).length+1) q.2.2))::(3000,.res (HeapJ ((A.mem.set (.v A.vers.length) (some (q.1,.box [.str name,.int .i64 nv,.sl ((rcpP rest).1.map Ph.cs),.int .i64 A.entries]))).set .vs (some (q.2.1,.gro 1 q.2.2 (A.vers.map vRow++[[X.raw (pV q.1)]]))))))::(2067,.any)::[])) (al:=[]) ⟨rfl,rfl,rfl,rfl,rfl,trivial⟩ (.cn (zn rfl rfl) (.cn (zr fi130_1 rfl) (.cn (S.hstore (xs:=A.cs) (xs':=(A.newV ⟨q.1,⟨name,nv,(rcpP rest).1⟩,A.entries⟩ q.2).cs) (.house) ti125 .none (zt rfl) (zt rfl) rfl ((HM.set_other _ _ (fun h=>by cases h)).trans ((HM.set_other _ _ (fun h=>by cases h)).trans A.atH)) rfl rfl rfl rfl (newV_cs A ⟨q.1,⟨name,nv,(rcpP rest).1⟩,A.entries⟩ q.2)) .nil)))))))))))))))))))) (S.happB (s:=[(58,.raw (A.vh.v A.vers.length)),(68,.own 68 1),(2068,.arrn 1 [] [.optr 67 1 0] []),(2067,.arrn 4 [] [.str name,.int .i64 nv,.sl ((rcpP rest).1.map Ph.cs),.int .i64 A.entries] []),(3000,.res (HeapJ A.mem))]) (cells':=[.str name,.int .i64 nv,.sl ((rcpP rest).1.map Ph.cs),.int .i64 A.entries]) .vs (.v A.vers.length) ai125 rfl (zt rfl) hok.vs (fun h=>by cases h) (zt rfl) rfl rfl rfl rfl rfl rfl (by simp only[List.length_map];omega) (by simp only[List.length_map,maxLen];omega)).st (fun _=>by kernel_rfl) (fun q q' j h1 h2 h3=>by
      have h4:j<19:=h2
      rcases(show j=0∨j=1∨j=2∨j=3∨j=4∨j=5∨j=6∨j=7∨j=8∨j=9∨j=10∨j=11∨j=12∨j=13∨j=14∨j=16∨j=17∨j=18 by omega)with rfl|rfl|rfl|rfl|rfl|rfl|rfl|rfl|rfl|rfl|rfl|rfl|rfl|rfl|rfl|rfl|rfl|rfl<;>first|rfl|exact Bool.noConfusion ((show _=true by kernel_rfl).symm.trans h3)) (fun _=>rfl) rfl (fun q=>?_)
    refine Ab.D.code (kO (OK.newV ⟨name,nv,(rcpP rest).1⟩ hok (by omega) rfl ⟨hn0,hn1⟩ (nameOk_len hno) fun A1 hok1 hb1 hpl1=>?_))
    refine OK.reg (kc (zi rfl rfl) (kD ?_))
    refine OK.resTo (J':=JX A.b (recipeT A.plain name rest).1 (m+2)) rfl (JX.stable _ _ _) (fun h Y w hj=>jx_of hok1 (by omega) hm hb1 (by rw[hT,hpl1,hnv];rfl) hj) ?_
    refine OK.ret ⟨Ret.r1 (zo rfl rfl) ?_,rfl,trivial⟩
    rw[hT]
theorem eff_10:EffOk 10:=fun hok hm _ _ _ hl=>rec_newRecipe hok hm hl.1 (asc_print hl.2.2.2)
end Go.Proofs.YtpbalelbenmmbaaGreatDoor
namespace Go.Proofs.YtpbalelbenmmbaaGreatDoor
open Go.Ab
theorem fewN_len{n:Net}(h:fewN n=true):n.people.length≤10∧n.plan.length≤80:=by
 refine⟨?_,fewN_plan h⟩
 unfold fewN at h
 rw[Bool.and_eq_true,Bool.and_eq_true]at h
 exact of_decide_eq_true h.1.1
theorem law10_RecordNets(haw:CtT Tryz.prog 7 [] (.bool true)){n:Net}:CtT Tryz.prog 3 [.agg n.cs] (.bool true):=by
 refine CtT.intro (rs:=[.tmp 2]) Tryz.func3 rfl Tryz.ntmps3 Tryz.results3 rfl rfl rfl fun w h hT=>?_
 refine kr (RK.c (zB (c:=1) rfl rfl) (kc (zb rfl) (kD (kO (kr ?_)))))
 refine kc (S.callT (haw) hT Tryz.call7 .none rfl .nil rfl) (kc (S.not .none rfl (zt rfl)) (kD (OK.condF rfl rfl rfl (OK.skip (Ab.D.code (kO (kr ?_)))))))
 refine kc (zL ti26 rfl rfl rfl rfl) (kc (S.call (law10_Few (n:=n)) Tryz.call8 .none rfl (zc rfl .nil) rfl) (kc (S.not .none rfl (zt rfl)) (kD (OK.cond rfl rfl (fun c11=>?_) (fun c11=>?_)))))
 ·
  refine kr (kc (zb rfl) (kD (OK.ret (Ret.r1 (zo rfl rfl) ?_))))
  simp_all
 ·
  have hfe:fewN n=true:=by simpa using c11
  obtain⟨hl1,hl2⟩:=fewN_len hfe
  refine OK.skip (kp (kc (zL ti26 rfl rfl rfl rfl) (kc (S.call (ref10_CopyNet (n:=n) (by omega)) Tryz.call10 .none rfl (zc rfl .nil) rfl) (kc (S.callT (rec_CheckNet (n:=n) (by omega)) hT Tryz.call9 .none rfl (zc rfl .nil) rfl) (kc (zm rfl) (kc (zX rfl rfl rfl) (kc (zX rfl rfl rfl) (kc (za rfl) (kc (za rfl) (kq (kc (zL ti26 rfl rfl rfl rfl) ?_)))))))))))
  refine kc (S.call (ref10_CheckNet (n:=n) (by omega)) Tryz.call11 .none rfl (zc rfl .nil) rfl) (kc (zm rfl) (kc (zX rfl rfl rfl) (kc (zX rfl rfl rfl) (kc (za rfl) (kc (za rfl) (kq (kc (zm rfl) (kc (zm rfl) (kc (S.eql .none rfl (zt rfl) (zt rfl)) (kc (zm rfl) (RK.splitD (t:=26) rfl (fun g26=>?_) (fun g26=>?_))))))))))))
  ·
   refine kc (S.move (zg rfl rfl) rfl (zt rfl)) (kc (S.move (zg rfl rfl) rfl (zt rfl)) (kc (S.eql (zg rfl rfl) rfl (zt rfl) (zt rfl)) (kc (S.pickT .none rfl (zt rfl) (zt rfl) rfl) (kc (za rfl) (kD (OK.ret (Ret.r1 (zo rfl rfl) ?_)))))))
   simp_all
  ·
   refine kc (zQ rfl rfl) (kc (zQ rfl rfl) (kc (zQ rfl rfl) (kc (S.pickF .none rfl (zt rfl) .cbool rfl) (kc (za rfl) (kD (OK.ret (Ret.r1 (zo rfl rfl) ?_)))))))
   simp_all
end Go.Proofs.YtpbalelbenmmbaaGreatDoor
