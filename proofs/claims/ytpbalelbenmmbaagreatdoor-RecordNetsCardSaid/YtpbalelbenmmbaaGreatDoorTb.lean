import Derived.Test.YtpbalelbenmmbaaGreatDoorHz
import Derived.Test.YtpbalelbenmmbaaGreatDoorGh
import Derived.Test.YtpbalelbenmmbaaGreatDoorHo
import Derived.Test.YtpbalelbenmmbaaGreatDoorRn
import Derived.Test.YtpbalelbenmmbaaGreatDoorRz
import Derived.Test.YtpbalelbenmmbaaGreatDoorTy
namespace Go.Proofs.YtpbalelbenmmbaaGreatDoor
open Go.Ab
theorem iterG_app{σ α:Type}(g:σ→α→σ×Bool):∀(a b:List α)(s:σ),iterG g s (a++b)=if(iterG g s a).2=true then iterG g (iterG g s a).1 b else iterG g s a
 |[],b,s=>by simp[iterG]
 |x::a,b,s=>by
  rw[List.cons_append,iterG,iterG]
  split
  ·exact iterG_app g a b _
  ·simp
theorem iterG_one{σ α:Type}(g:σ→α→σ×Bool)(s:σ)(x:α):iterG g s [x]=g s x:=by
 rw[iterG]
 split
 ·rename_i h
  exact Prod.ext rfl h.symm
 ·rename_i h
  exact Prod.ext rfl (by simpa using h)
theorem iter_P{σ α:Type}{g:σ→α→σ×Bool}{P:σ→Prop}(hP:∀s x,P s→(g s x).2=true→P (g s x).1):∀(L:List α)(s:σ),P s→(iterG g s L).2=true→P (iterG g s L).1
 |[],_,h,_=>h
 |x::L,s,h,h2=>by
  rw[iterG]at h2⊢
  split
  ·rename_i h3
   rw[if_pos h3]at h2
   exact iter_P hP L _ (hP s x h h3) h2
  ·rename_i h3
   rw[if_neg h3]at h2
   cases h2
def emitR(d:Nat)(p:Ph):List Ph:=if p.kind=5 then(List.replicate p.ticks.toNat (flatG d p.body)).flatten else [p]
theorem flatG_emit(d:Nat)(l:List Ph):flatG (d+1) l=l.flatMap (emitR d):=rfl
def Deep:Nat→List Ph→Prop
 |0,_=>False
 |d+1,l=>∀p∈l,p.kind=5→(0≤p.ticks∧p.ticks≤10)∧Deep d p.body
section
variable{σ:Type}{g:σ→Ph→σ×Bool}{s0 s:σ}{d:Nat}{l:List Ph}{i j:Nat}{L:List Ph}
theorem em_next(hi:i<l.length)(h:(iterG g s0 ((l.take i).flatMap (emitR d))).2=true):iterG g s0 ((l.take (i+1)).flatMap (emitR d))=iterG g (iterG g s0 ((l.take i).flatMap (emitR d))).1 (emitR d l[i]):=by
 rw[List.take_succ_eq_append_getElem hi,List.flatMap_append,iterG_app,if_pos h]
 simp
theorem em_stop(hi:i<l.length)(h:(iterG g s0 ((l.take (i+1)).flatMap (emitR d))).2=false):iterG g s0 (flatG (d+1) l)=iterG g s0 ((l.take (i+1)).flatMap (emitR d)):=by
 rw[flatG_emit]
 have e:l.flatMap (emitR d)=(l.take (i+1)).flatMap (emitR d)++(l.drop (i+1)).flatMap (emitR d):=by rw[←List.flatMap_append,List.take_append_drop]
 rw[e,iterG_app,if_neg (by rw[h];decide)]
theorem em_end(hi:l.length≤i):(l.take i).flatMap (emitR d)=flatG (d+1) l:=by rw[List.take_of_length_le hi];rfl
theorem em_one{p:Ph}(h:p.kind≠5):emitR d p=[p]:=if_neg h
theorem em_rep{p:Ph}(h:p.kind=5):emitR d p=(List.replicate p.ticks.toNat (flatG d p.body)).flatten:=if_pos h
theorem rep_next(h:(iterG g s ((List.replicate j L).flatten)).2=true):iterG g s ((List.replicate (j+1) L).flatten)=iterG g (iterG g s ((List.replicate j L).flatten)).1 L:=by
 rw[List.replicate_succ',List.flatten_append,iterG_app,if_pos h]
 simp
theorem rep_stop{n:Nat}(hj:j+1≤n)(h:(iterG g s ((List.replicate (j+1) L).flatten)).2=false):iterG g s ((List.replicate n L).flatten)=iterG g s ((List.replicate (j+1) L).flatten):=by
 obtain⟨k,rfl⟩:∃k,n=(j+1)+k:=⟨n - (j+1),by omega⟩
 rw[←List.replicate_append_replicate,List.flatten_append,iterG_app,if_neg (by rw[h];decide)]
end
set_option maxHeartbeats 1000000 in
theorem rcp_flat0{σ:Type}{J:σ→Mem→(Nat→Prop)→World→Prop}{g:σ→Ph→σ×Bool}{Φ:Value→Prop}(hst:∀s,Stable (J s)){P:σ→Prop}(hP:∀s p,P s→(g s p).2=true→P (g s p).1)(hcb:∀v,Φ v→∀s p,P s→CbOk Tryz.prog v [.agg p.cx] (.bool (g s p).2) (J s) (J (g s p).1)){d:Nat}{l:List Ph}(hd:Deep (d+1) l)(ih:∀b:List Ph,Deep d b→∀s,P s→CtG Tryz.prog 338 [] [.sl (b.map Ph.cs),.cb Φ] [(3000,.res (J s))] [(3000,.res (J (iterG g s (flatG d b)).1))] (.bool (iterG g s (flatG d b)).2)){s0:σ}(hs0:P s0):CtG Tryz.prog 338 [] [.sl (l.map Ph.cs),.cb Φ] [(3000,.res (J s0))] [(3000,.res (J (iterG g s0 (flatG (d+1) l)).1))] (.bool (iterG g s0 (flatG (d+1) l)).2):=by
 refine CtG.intro (rs:=[.tmp 4]) Tryz.func338 rfl Tryz.ntmps338 Tryz.results338 rfl rfl rfl rfl fun w h=>?_
 rw[cs_cx l]
 refine OK.slLen (rows:=l.map Ph.cx) (t:=0) rfl rfl fun hlen=>?_
 rw[List.length_map]at hlen
 unfold maxLen at hlen
 refine kr (kc (zb rfl) (kD (kO (kr ?_))))
 refine kc (zm rfl) (kc (zk si131 rfl) (kc (S.move .none rfl (.cint rfl)) (kD (OK.block (OK.loop (G:=Nat) [] (fun i=>[(1,.cb Φ),(7,.sl (l.map Ph.cx)),(8,.int .i64 (l.length:Int)),(9,.int .i64 i),(3000,.res (J (iterG g s0 ((l.take i).flatMap (emitR d))).1))]) (fun i=>i≤l.length∧(iterG g s0 ((l.take i).flatMap (emitR d))).2=true) (fun i=>l.length - i) 0 ⟨Nat.zero_le _,rfl⟩ ⟨rfl,rfl,rfl,rfl,rfl,trivial⟩ (fun _=>rfl) ?_)))))
 rintro i ⟨hi,hrun⟩
 refine kr (kc (S.lss .none rfl (zt rfl) (zt rfl)) (kD (kO (kB rfl (fun c10=>?_) (fun c10=>?_)))))
 ·
  have hil:i<l.length:=by omega
  have hem:=em_next hil hrun
  refine OK.skip (Ab.D.code (kO (OK.block (kr (kc (S.indexM (n:=i) si131 .none rfl (zt rfl) (zt rfl) rfl (by omega) rfl) (kc (S.loadN ti354 .none rfl (zt rfl) rfl rfl) (RK.c (zA (c:=6) ze354 rfl) (kc (zS ti354 rfl rfl rfl rfl rfl rfl) (kD (kO (kr ?_)))))))))))
  refine kc (zf fi354_0 rfl) (kc (zl ti3 rfl rfl rfl rfl) (kc (zN rfl rfl) (kD (kB rfl (fun c15=>?_) (fun c15=>?_)))))
  ·
   have hnx:iterG g s0 ((l.take (i+1)).flatMap (emitR d))=g (iterG g s0 ((l.take i).flatMap (emitR d))).1 l[i]:=by rw[hem,em_one c15,iterG_one]
   refine OK.seq (kr ?_)
   refine kc (zm rfl) (kc (zL ti354 rfl rfl rfl rfl) (kc (S.callcb (J1:=J (g (iterG g s0 ((l.take i).flatMap (emitR d))).1 l[i]).1) ((fun v hv=>hcb v hv (iterG g s0 ((l.take i).flatMap (emitR d))).1 l[i] (iter_P hP _ _ hs0 hrun))) (hst _) .none rfl (zt rfl) (zc rfl .nil) rfl rfl) ?_))
   refine kc (S.not .none rfl (zt rfl)) (kD (OK.cond rfl rfl (fun c19=>?_) (fun c19=>?_)))
   ·
    have hf:(g (iterG g s0 ((l.take i).flatMap (emitR d))).1 l[i]).2=false:=by simpa using c19
    have hT:=em_stop hil (by rw[hnx];exact hf)
    rw[hnx]at hT
    refine kr (kc (zb rfl) (kD (OK.ret ⟨Ret.r1 (zo rfl rfl) ?_,lkR (by rw[hT]),trivial⟩)))
    rw[hT,hf]
   ·
    have hgo:(g (iterG g s0 ((l.take i).flatMap (emitR d))).1 l[i]).2=true:=by simpa using c19
    refine OK.skip (Ab.D.code (OK.exit rfl (Ab.D.code (OK.reg ?_))))
    refine kc (zp rfl rfl (by omega)) (kc (zm rfl) (RK.nil ?_))
    refine Ab.D.lp ⟨i+1,⟨by omega,by rw[hnx];exact hgo⟩,(by omega),rfl,rfl,rfl,rfl,(lkR (by rw[hnx])),trivial⟩
  ·
   have h5:l[i].kind=5:=Decidable.not_not.1 c15
   obtain⟨htk,hdb⟩:=hd l[i] (List.getElem_mem hil) h5
   have hem2:=hem
   rw[em_rep h5]at hem2
   refine OK.skip (kp (kc (zf fi354_3 rfl) (kc (zl ti3 rfl rfl rfl rfl) (kc (S.move .none rfl (.cint rfl)) (kD (OK.block (OK.loop (G:=Nat) [6] (fun j=>[(1,.cb Φ),(6,.ptr 6 0),(1006,.box l[i].cx),(7,.sl (l.map Ph.cx)),(8,.int .i64 (l.length:Int)),(9,.int .i64 i),(21,.int .i64 l[i].ticks),(22,.int .i64 j),(3000,.res (J (iterG g (iterG g s0 ((l.take i).flatMap (emitR d))).1 ((List.replicate j (flatG d l[i].body)).flatten)).1))]) (fun j=>j≤l[i].ticks.toNat∧(iterG g (iterG g s0 ((l.take i).flatMap (emitR d))).1 ((List.replicate j (flatG d l[i].body)).flatten)).2=true) (fun j=>l[i].ticks.toNat - j) 0 ⟨Nat.zero_le _,rfl⟩ ⟨rfl,rfl,rfl,rfl,rfl,rfl,rfl,rfl,rfl,trivial⟩ (fun _=>rfl) ?_)))))))
   rintro j ⟨hj,hrj⟩
   refine kr (kc (S.lss .none rfl (zt rfl) (zt rfl)) (kD (kO (kB rfl (fun c23=>?_) (fun c23=>?_)))))
   ·
    have hrn:=rep_next hrj
    have hjt:j+1≤l[i].ticks.toNat:=by omega
    refine OK.skip (Ab.D.code (kO (OK.block (kr (kc (zf fi354_5 rfl) (kc (zl ti131 rfl rfl rfl rfl) (kc (zm rfl) (RK.c (S.callJ (((ih l[i].body hdb (iterG g (iterG g s0 ((l.take i).flatMap (emitR d))).1 ((List.replicate j (flatG d l[i].body)).flatten)).1 (iter_P hP _ _ (iter_P hP _ _ hs0 hrun) hrj)).atJ (hst _))) (hst _) Tryz.call338 .none rfl (zc rfl (zc rfl .nil)) rfl rfl) (kc (S.not .none rfl (zt rfl)) (kD (OK.cond rfl rfl (fun c28=>?_) (fun c28=>?_))))))))))))
    ·
     have hf:(iterG g (iterG g (iterG g s0 ((l.take i).flatMap (emitR d))).1 ((List.replicate j (flatG d l[i].body)).flatten)).1 (flatG d l[i].body)).2=false:=by simpa using c28
     have hst2:=rep_stop hjt (by rw[hrn];exact hf)
     have hnx:=hem2.trans (hst2.trans hrn)
     have hT:=em_stop hil (by rw[hnx];exact hf)
     rw[hnx]at hT
     refine kr (kc (zb rfl) (kD (OK.ret ⟨Ret.r1 (zo rfl rfl) ?_,lkR (by rw[hT]),trivial⟩)))
     rw[hT,hf]
    ·
     have hgj:(iterG g (iterG g (iterG g s0 ((l.take i).flatMap (emitR d))).1 ((List.replicate j (flatG d l[i].body)).flatten)).1 (flatG d l[i].body)).2=true:=by simpa using c28
     refine OK.skip (Ab.D.blk (Ab.D.code (OK.reg ?_)))
     refine kc (zp rfl rfl (by omega)) (kc (zm rfl) (RK.nil ?_))
     refine Ab.D.lp ⟨j+1,⟨by omega,by rw[hrn];exact hgj⟩,(by omega),rfl,rfl,rfl,rfl,rfl,rfl,rfl,rfl,(lkR (by rw[hrn])),trivial⟩
   ·
    have hje:j=l[i].ticks.toNat:=by omega
    have hnx:iterG g s0 ((l.take (i+1)).flatMap (emitR d))=(iterG g (iterG g s0 ((l.take i).flatMap (emitR d))).1 ((List.replicate j (flatG d l[i].body)).flatten)):=by rw[hem2,hje]
    have hgo:=hrj
    refine OK.exit rfl (Ab.D.blk (Ab.D.code (OK.reg ?_)))
    refine kc (zp rfl rfl (by omega)) (kc (zm rfl) (RK.nil ?_))
    refine Ab.D.lp ⟨i+1,⟨by omega,by rw[hnx];exact hgo⟩,(by omega),rfl,rfl,rfl,rfl,(lkR (by rw[hnx])),trivial⟩
 ·
  have hT:iterG g s0 (flatG (d+1) l)=(iterG g s0 ((l.take i).flatMap (emitR d))):=by rw[em_end (by omega)]
  refine OK.exit rfl (kp (kc (zb rfl) (kD (OK.ret ⟨Ret.r1 (zo rfl rfl) ?_,lkR (by rw[hT]),trivial⟩))))
  rw[hT,hrun]
theorem rcp_flat{σ:Type}{J:σ→Mem→(Nat→Prop)→World→Prop}{g:σ→Ph→σ×Bool}{Φ:Value→Prop}(hst:∀s,Stable (J s)){P:σ→Prop}(hP:∀s p,P s→(g s p).2=true→P (g s p).1)(hcb:∀v,Φ v→∀s p,P s→CbOk Tryz.prog v [.agg p.cx] (.bool (g s p).2) (J s) (J (g s p).1)):∀(d:Nat)(l:List Ph),Deep d l→∀s,P s→CtG Tryz.prog 338 [] [.sl (l.map Ph.cs),.cb Φ] [(3000,.res (J s))] [(3000,.res (J (iterG g s (flatG d l)).1))] (.bool (iterG g s (flatG d l)).2)
 |0,_,h=>h.elim
 |d+1,_,h=>fun _ hs=>rcp_flat0 hst hP hcb h (rcp_flat hst hP hcb d) hs
end Go.Proofs.YtpbalelbenmmbaaGreatDoor
namespace Go.Proofs.YtpbalelbenmmbaaGreatDoor
open Go.Ab
abbrev zRow:List X:=[.int .i64 0,.int .i64 0,.int .i64 0,.int .i64 0,.int .i64 0,.sl []]
theorem out_set(l:List Ph)(p:Ph):(l.map Ph.cx++[zRow]).set l.length p.cx=(l++[p]).map Ph.cx:=by
 rw[List.set_append_right _ _ (by simp),List.map_append]
 simp
def gOut(l:List Ph)(p:Ph):List Ph×Bool:=(l++[p],decide (((l++[p]).length:Int)≤60))
theorem gOut_iter:∀(L acc:List Ph),acc.length≤60→(iterG gOut acc L).1=(acc++L).take 61
 |[],acc,h=>by rw[iterG,List.append_nil,List.take_of_length_le (by omega)]
 |p::L,acc,h=>by
  rw[iterG]
  by_cases hc:(gOut acc p).2=true
  ·rw[if_pos hc]
   have h2:((acc++[p]).length:Int)≤60:=of_decide_eq_true hc
   have:=gOut_iter L (acc++[p]) (by omega)
   rw[show(gOut acc p).1=acc++[p]from rfl,this,List.append_assoc]
   rfl
  ·rw[if_neg hc]
   have h2:¬((acc++[p]).length:Int)≤60:=fun e=>hc (decide_eq_true e)
   rw[List.length_append,List.length_singleton]at h2
   show acc++[p]=_
   rw[show acc++p::L=(acc++[p])++L by simp,List.take_append_of_le_length (by rw[List.length_append,List.length_singleton];omega),List.take_of_length_le (by rw[List.length_append,List.length_singleton];omega)]
def stOut(l:List Ph):St:=[(1003,.box [.own 890 l.length]),(2890,.arr 6 (l.map Ph.cx))]
set_option maxHeartbeats 1000000 in
theorem rcp_flat1{l:List Ph}(hl:l.length≤60){p:Ph}:CtG Tryz.prog 339 [3,890] [.agg p.cx,.ptr 3 0] [(1003,.box [.own 890 (l).length]),(2890,.arr 6 ((l).map Ph.cx))] [(1003,.box [.own 890 (l++[p]).length]),(2890,.arr 6 ((l++[p]).map Ph.cx))] (.bool (decide (((l++[p]).length:Int)≤60))):=by
 refine CtG.intro (rs:=[.tmp 3]) Tryz.func339 rfl Tryz.ntmps339 Tryz.results339 rfl rfl rfl rfl fun w h=>?_
 refine kr (RK.c (zB (c:=2) rfl rfl) (kc (zb rfl) (kD (kO ?_))))
 refine OK.regionDraw follows (.c (zl ti131 rfl rfl rfl rfl) (.c (zL ti354 rfl rfl rfl rfl) (.c (S.lenOwn si131 .none rfl (zt rfl) rfl (by simp)) (.c (S.mkSliceD (k:=7) (row:=zRow) ai131 .none rfl (.cagg rfl rfl) rfl rfl ⟨.inl ⟨rfl,rfl⟩,.inl ⟨rfl,rfl⟩,.inl ⟨rfl,rfl⟩,.inl ⟨rfl,rfl⟩,.inl ⟨rfl,rfl⟩,.inr ⟨rfl,rfl⟩,trivial⟩ rfl rfl) (.c (S.append ai131 .none rfl (zt rfl) rfl (by simp) (zt rfl) rfl (by first|rfl|(simp;done)|(simp;omega)) (by omega) (by simp only[maxLen];omega)) (.c (S.oindex (i:=l.length) si131 .none rfl (zt rfl) rfl (by simp) (zt rfl) rfl (by simp)) (.c (S.ostore (i:=l.length) ti354 .none (zt rfl) (zt rfl) rfl (by simp) rfl (by simp) rfl rfl rfl (out_set l p)) (.c (zS ti131 rfl rfl rfl rfl rfl rfl) .nil)))))))) (by kernel_rfl) ?_
 refine kp (kc (zl ti131 rfl rfl rfl rfl) (kc (S.lenOwn si131 .none rfl (zt rfl) rfl (by simp)) ?_))
 refine kc (S.leq .none rfl (zt rfl) (.cint rfl)) (kc (za rfl) (kD ?_))
 refine OK.ret ⟨Ret.r1 (zo rfl rfl) ?_,(by rw[List.length_append];rfl),rfl,trivial⟩
 rw[List.length_append]
 rfl
theorem rcp_flattened{l:List Ph}(hd:Deep 4 l):Ct Tryz.prog 294 [.sl (l.map Ph.cs)] (.sl ((flatT l).map Ph.cx)):=by
 refine Ct.intro (rs:=[.tmp 2]) Tryz.func294 rfl Tryz.ntmps294 Tryz.results294 rfl rfl rfl fun w h=>?_
 refine kr (kc (S.assign .none rfl .cnil) (kq (RK.c (zA (c:=3) ze131 rfl) (kD (kO (OK.boxOwn 3 0 890 6 rfl rfl rfl rfl rfl (OK.reg (kc (zm rfl) (kc (S.makeFunc1 .none rfl (zt rfl) rfl) ?_)))))))))
 refine RK.c (S.callE (ys:=[.sl (l.map Ph.cs)]) (fs:=[3,890]) (t:=[(1003,.box [.own 890 (([]:List Ph)).length]),(2890,.arr 6 ((([]:List Ph)).map Ph.cx))]) (t':=[(1003,.box [.own 890 ((iterG gOut [] (flatG 4 l)).1).length]),(2890,.arr 6 (((iterG gOut [] (flatG 4 l)).1).map Ph.cx))]) (fun cL v0 hv=>rcp_flat (J:=fun s=>LentJ [3,890] (stOut []) cL (stOut s)) (g:=gOut) (Φ:=fun v=>v=v0) (fun s=>LentJ.stable rfl) (P:=fun s=>s.length≤60) (fun s p h1 h2=>by have:=of_decide_eq_true h2;show(s++[p]).length≤60;omega) (fun v hv2 s p hs=>by rw[show v=v0 from hv2];exact cb_of_G (rcp_flat1 hs) Tryz.call339 rfl hv rfl rfl) 4 l hd [] (Nat.zero_le _)) Tryz.call338 .none rfl (zc rfl (zc rfl .nil)) rfl rfl rfl ⟨rfl,rfl,trivial⟩ (by kernel_rfl) (by kernel_rfl) (by kernel_rfl) (by kernel_rfl) (by kernel_rfl) rfl rfl) ?_
 refine kD (kO ?_)
 rw[show(iterG gOut [] (flatG 4 l)).1=flatT l from(gOut_iter _ [] (Nat.zero_le _)).trans rfl]
 refine OK.reg (kc (zl ti131 rfl rfl rfl rfl) (kc (za rfl) (kD ?_)))
 refine OK.ret (Ret.r1 (.tmp rfl rfl (.c (.own rfl rfl (by first|rfl|(simp;done)|(simp;omega))) rfl) rfl) ?_)
 rfl
end Go.Proofs.YtpbalelbenmmbaaGreatDoor
namespace Go.Proofs.YtpbalelbenmmbaaGreatDoor
open Go.Ab
theorem each_all{g:Ph→Int}:∀{l:List Ph}{i:Nat},(eachGo (fun _ p=>g p) i l).2=0→∀p∈l,g p=0
 |[],_,_,p,hp=>by cases hp
 |x::l,i,h,p,hp=>by
  rw[eachGo]at h
  split at h
  ·rename_i h1
   exact absurd h h1
  ·rename_i h1
   rcases List.mem_cons.1 hp with rfl|hp
   ·exact Decidable.not_not.1 h1
   ·exact each_all h p hp
theorem listR_ok{g:Ph→Int}{l:List Ph}(h:(listR g l).2=0):l≠[]∧∀p∈l,g p=0:=by
 unfold listR at h
 split at h
 ·exact absurd h (by decide)
 ·rename_i h1
  split at h
  ·exact absurd h (by decide)
  ·exact⟨fun e=>h1 (by rw[e];rfl),each_all h⟩
theorem phase_ok{m:Nat}{p:Ph}(h:phaseE m p=0)(h5:p.kind=5):(1≤p.ticks∧p.ticks≤10)∧∃m',m=m'+1∧(listR (phaseE m') p.body).2=0:=by
 have hk:0≤p.kind∧p.kind≤5:=by omega
 have he:phE1 p=0:=by
  by_cases he:phE1 p=0
  ·exact he
  ·rw[phaseE_e hk he]at h;exact h
 have hr:rightR p=true:=by
  unfold phE1 at he
  cases hc:cleanR p<;>cases hr:rightR p<;>rw[hc,hr]at he<;>first|rfl|exact absurd he (by decide)
 have ht:1≤p.ticks∧p.ticks≤10:=by
  unfold rightR at hr
  rw[h5]at hr
  exact of_decide_eq_true hr
 cases m with
 |zero=>rw[phaseE_16 hk he h5]at h;exact absurd h (by decide)
 |succ m=>rw[phaseE_l hk he h5]at h;exact⟨ht,m,rfl,h⟩
theorem deep_of:∀(m:Nat){l:List Ph},(listR (phaseE m) l).2=0→Deep (m+1) l:=by
 intro m
 induction m with
 |zero=>
  intro l h p hp h5
  obtain⟨_,m',e,_⟩:=phase_ok ((listR_ok h).2 p hp) h5
  omega
 |succ m ih=>
  intro l h p hp h5
  obtain⟨h1,m',e,h2⟩:=phase_ok ((listR_ok h).2 p hp) h5
  have:m'=m:=by omega
  subst this
  exact⟨⟨by omega,h1.2⟩,ih h2⟩
theorem flat_ne:∀(m:Nat){l:List Ph},(listR (phaseE m) l).2=0→flatG (m+1) l≠[]:=by
 intro m
 induction m with
 |zero=>
  intro l h
  obtain⟨h1,h2⟩:=listR_ok h
  cases l with
  |nil=>exact absurd rfl h1
  |cons p l=>
   have h3:=h2 p List.mem_cons_self
   have h5:p.kind≠5:=fun h5=>by
    obtain⟨_,m',e,_⟩:=phase_ok h3 h5
    omega
   rw[flatG_emit,List.flatMap_cons,em_one h5]
   exact List.cons_ne_nil _ _
 |succ m ih=>
  intro l h
  obtain⟨h1,h2⟩:=listR_ok h
  cases l with
  |nil=>exact absurd rfl h1
  |cons p l=>
   have h3:=h2 p List.mem_cons_self
   rw[flatG_emit,List.flatMap_cons]
   intro e
   rw[List.append_eq_nil_iff]at e
   by_cases h5:p.kind=5
   ·obtain⟨ht,m',e2,h4⟩:=phase_ok h3 h5
    have:m'=m:=by omega
    subst this
    have e3:=e.1
    rw[em_rep h5]at e3
    obtain⟨n,hn⟩:∃n,p.ticks.toNat=n+1:=⟨p.ticks.toNat - 1,by omega⟩
    rw[hn,List.replicate_succ,List.flatten_cons,List.append_eq_nil_iff]at e3
    exact ih h4 e3.1
   ·have e3:=e.1
    rw[em_one h5]at e3
    cases e3
theorem flatT_pos{l:List Ph}(h:(listR (phaseE 3) l).2=0):0<(flatT l).length:=by
 have h1:0<(flatG 4 l).length:=List.length_pos_iff.2 (flat_ne 3 h)
 show 0<((flatG 4 l).take 61).length
 rw[List.length_take]
 omega
theorem flatT_le(l:List Ph):(flatT l).length≤61:=by
 show((flatG 4 l).take 61).length≤61
 rw[List.length_take]
 omega
theorem last_kind{L:List Ph}(h:L.length - 1<L.length):(L.getLast?.map Ph.kind).getD 0=L[L.length - 1].kind:=by
 rw[List.getLast?_eq_getElem?,List.getElem?_eq_getElem h]
 rfl
theorem chkR_1{l:List Ph}(h:(listR (phaseE 3) l).2≠0):chkR l=(listR (phaseE 3) l).2:=if_pos h
theorem chkR_2{l:List Ph}(h:(listR (phaseE 3) l).2=0)(hp:(flatT l).length - 1<(flatT l).length):chkR l=firstE [unlessE (decide (((flatT l).length:Int)≤60)) 8,unlessE (isColdT (flatT l)[(flatT l).length - 1].kind) 20]:=by
 unfold chkR
 rw[if_neg (not_not_intro h),last_kind hp]
theorem rcpP_8{s:List UInt8}(h:2000<s.length):rcpP s=([],8):=if_pos h
theorem rcpP_7{s:List UInt8}(h:¬2000<s.length)(h2:(lsT s).1.2=false∨(lsT s).2≠[]):rcpP s=([],7):=by
 unfold rcpP
 rw[if_neg h]
 dsimp only
 rw[if_pos h2]
theorem rcpP_e{s:List UInt8}(h:¬2000<s.length)(h1:(lsT s).1.2=true)(h2:(lsT s).2=[])(h3:chkR (lsT s).1.1≠0):rcpP s=([],chkR (lsT s).1.1):=by
 unfold rcpP
 rw[if_neg h]
 dsimp only
 rw[if_neg (fun e=>e.elim (fun e=>by rw[h1]at e;cases e) fun e=>e h2),if_pos h3]
theorem rcpP_0{s:List UInt8}(h:¬2000<s.length)(h1:(lsT s).1.2=true)(h2:(lsT s).2=[])(h3:chkR (lsT s).1.1=0):rcpP s=((lsT s).1.1,0):=by
 unfold rcpP
 rw[if_neg h]
 dsimp only
 rw[if_neg (fun e=>e.elim (fun e=>by rw[h1]at e;cases e) fun e=>e h2),if_neg (not_not_intro h3)]
theorem rcp_isCold{k:Int}:Ct Tryz.prog 297 [.int .i64 k] (.bool (isColdT k)):=by
 refine Ct.intro (rs:=[.tmp 2]) Tryz.func297 rfl Tryz.ntmps297 Tryz.results297 rfl rfl rfl fun w h=>?_
 refine kr (kc (zb rfl) (kq (kc (zm rfl) (kc (zE rfl rfl) (kc (zm rfl) (RK.splitD (t:=5) rfl (fun g5=>?_) (fun g5=>?_)))))))
 ·
  refine kc (zQ rfl rfl) (kc (zQ rfl rfl) (kc (S.pickT .none rfl (zt rfl) .cbool rfl) (kc (za rfl) (kD (OK.ret (Ret.r1 (zo rfl rfl) ?_))))))
  simp[isColdT, *]
 ·
  refine kc (S.move (zg rfl rfl) rfl (zt rfl)) (kc (S.eql (zg rfl rfl) rfl (zt rfl) (.cint rfl)) (kc (S.pickF .none rfl (zt rfl) (zt rfl) rfl) (kc (za rfl) (kD (OK.ret (Ret.r1 (zo rfl rfl) ?_))))))
  simp[isColdT, *]
theorem rcp_CheckRecipe{l:List Ph}:Ct Tryz.prog 244 [.sl (l.map Ph.cs)] (.tup [.int .i64 (if(listR (phaseE 3) l).2≠0 then(listR (phaseE 3) l).1 else 0),.int .i64 (chkR l)]):=by
 refine Ct.intro (rs:=[.tmp 2,.tmp 3]) Tryz.func244 rfl Tryz.ntmps244 Tryz.results244 rfl rfl rfl fun w h=>?_
 refine kr (kc (zi rfl rfl) (kc (zi rfl rfl) (kD (kO (kr ?_)))))
 refine kc (zm rfl) (kc (S.call (rcp_listErr (l:=l)) Tryz.call293 .none rfl (zc rfl (.cons (.cint rfl) .nil)) rfl) (kc (zm rfl) (kc (zX rfl rfl rfl) (kc (zX rfl rfl rfl) (kc (za rfl) (kc (za rfl) (kq (kc (zm rfl) (kc (zN rfl rfl) (kD (kB rfl (fun c13=>?_) (fun c13=>?_))))))))))))
 ·
  have hT:=chkR_1 (l:=l) c13
  refine kr (kc (zm rfl) (kc (zm rfl) (kc (za rfl) (kc (za rfl) (kD (OK.ret (Ret.r2 (zo rfl rfl) (zo rfl rfl) ?_)))))))
  rw[hT,if_pos c13]
  try rfl
 ·
  have h0:(listR (phaseE 3) l).2=0:=Decidable.not_not.1 c13
  have hps:=flatT_pos h0
  have hle:=flatT_le l
  have hp1:(flatT l).length - 1<(flatT l).length:=by omega
  have hT:=chkR_2 h0 hp1
  refine OK.skip (kp (kc (zm rfl) (kc (S.call (rcp_flattened (deep_of 3 h0)) Tryz.call294 .none rfl (zc rfl .nil) rfl) (kc (za rfl) (kD (kO (OK.regionDraw follows (.c (zm rfl) (.c (zk si131 rfl) (.c (S.leq .none rfl (zt rfl) (.cint rfl)) (.c (S.call (recipe_unless) Tryz.call296 .none rfl (zc rfl (.cons (.cint rfl) .nil)) rfl) (.c (zm rfl) (.c (zm rfl) (.c (zk si131 rfl) (.c (S.sub .none rfl (zt rfl) (.cint rfl) (IntWalk.i64_in _ (by omega)) (IntWalk.i64_in _ (by omega))) (.c (S.indexM (n:=((flatT l).length - 1)) si131 .none rfl (zt rfl) (zt rfl) (by omega) hp1 rfl) (.c (S.field fi354_0 .none rfl (zt rfl) rfl) (.c (zV ti3 rfl rfl) (.c (S.call (rcp_isCold) Tryz.call297 .none rfl (zc rfl .nil) rfl) (.c (S.call (recipe_unless) Tryz.call296 .none rfl (zc rfl (.cons (.cint rfl) .nil)) rfl) (.c (S.mkSlice (k:=31) (rows:=[[_],[_]]) ai184 .none rfl (zc rfl (zc rfl .nil)) rfl rfl rfl rfl rfl rfl rfl) (.c (S.callL (recipe_first (l:=[_,_])) Tryz.call295 .none rfl (zc rfl .nil) (.cons (.p (.own rfl rfl) rfl) .nil) rfl) (.c (zi rfl rfl) (.c (za rfl) .nil))))))))))))))))) (by kernel_rfl) ?_)))))))
  refine Ab.D.code (OK.ret (Ret.r2 (zo rfl rfl) (zo rfl rfl) ?_))
  rw[hT,if_neg c13]
  try rfl
theorem rcp_ParseRecipe{s:List UInt8}(hl:s.length≤100000)(ha:Asc s):CtT Tryz.prog 188 [.str s] (.tup [.sl ((rcpP s).1.map Ph.cs),.int .i64 (rcpP s).2]):=by
 refine CtT.intro (rs:=[.tmp 2,.tmp 3]) Tryz.func188 rfl Tryz.ntmps188 Tryz.results188 rfl rfl rfl fun w h hT=>?_
 refine kr (kc (S.assign .none rfl .cnil) (kc (zi rfl rfl) (kD (kO (kr ?_)))))
 refine kc (zm rfl) (kc (S.slen Tryz.underlying9 .none rfl (zt rfl)) (kc (S.gtr .none rfl (zt rfl) (.cint rfl)) (kD (kB rfl (fun c11=>?_) (fun c11=>?_)))))
 ·
  have hT:=rcpP_8 (s:=s) (by omega)
  refine kr (kc (S.assign .none rfl .cnil) (kc (zi rfl rfl) (kD (OK.ret (Ret.r2 (zo rfl rfl) (zo rfl rfl) ?_)))))
  rw[hT]
  try rfl
 ·
  have h20:¬2000<s.length:=by omega
  refine OK.skip (kp (kc (zm rfl) (kc (S.build bu345 rfl .none rfl (zc rfl .nil) rfl rfl) (RK.c (zA (c:=4) ze345 rfl) (kc (zS ti345 rfl rfl rfl rfl rfl rfl) (kq (RK.c (S.callGT (fs:=[4]) (t:=[(1004,.box [.str s])]) (t':=[(1004,.box [.str (lsT s).2])]) (rcp_list hl ha) hT Tryz.call243 .none rfl (zc rfl .nil) (by kernel_rfl) ⟨rfl,trivial⟩ (by kernel_rfl) (by kernel_rfl) (by kernel_rfl) (by kernel_rfl) rfl (by kernel_rfl)) ?_)))))))
  refine kc (zm rfl) (kc (zX rfl rfl rfl) (kc (zX rfl rfl rfl) (kc (za rfl) (kc (za rfl) (kD (kO (kr ?_)))))))
  refine kc (zm rfl) (kc (S.not .none rfl (zt rfl)) (kc (zm rfl) (RK.split (t:=20) rfl (fun g20=>?_) (fun g20=>?_))))
  ·
   have hT:=rcpP_7 h20 (.inl (by simpa using g20))
   refine kc (zQ rfl rfl) (kc (zQ rfl rfl) (kc (zQ rfl rfl) (kc (S.pickT .none rfl (zt rfl) .cbool rfl) (kD (OK.condT rfl rfl rfl (kr (kc (S.assign .none rfl .cnil) (kc (zi rfl rfl) (kD (OK.ret (Ret.r2 (zo rfl rfl) (zo rfl rfl) ?_)))))))))))
   rw[hT]
   try rfl
  ·
   have hok:(lsT s).1.2=true:=by simpa using g20
   refine kc (S.bfield fi345_0 (zg rfl rfl) rfl (zt rfl)) (kc (S.bload1 ti9 (zg rfl rfl) rfl (zt rfl) rfl rfl rfl rfl) (kc (S.sneq (zg rfl rfl) rfl (zt rfl) (.cstr (l:=[]) rfl (by decide))) (kc (S.pickF .none rfl (zt rfl) (zt rfl) rfl) (kD (kB rfl (fun c24=>?_) (fun c24=>?_))))))
   ·
    have hT:=rcpP_7 h20 (.inr (by simpa using c24))
    refine kr (kc (S.assign .none rfl .cnil) (kc (zi rfl rfl) (kD (OK.ret (Ret.r2 (zo rfl rfl) (zo rfl rfl) ?_)))))
    rw[hT]
    try rfl
   ·
    have hem:(lsT s).2=[]:=by simpa using c24
    refine OK.skip (Ab.D.code (kO (kr ?_)))
    refine kc (zm rfl) (kc (S.call (rcp_CheckRecipe (l:=(lsT s).1.1)) Tryz.call244 .none rfl (zc rfl .nil) rfl) (kc (zm rfl) (kc (zX rfl rfl rfl) (kc (zX rfl rfl rfl) (kc (za rfl) (kc (za rfl) (kq (kc (zm rfl) (kc (zN rfl rfl) (kD (kB rfl (fun c31=>?_) (fun c31=>?_))))))))))))
    ·
     have hT:=rcpP_e h20 hok hem c31
     refine kr (kc (zm rfl) (kc (S.assign .none rfl .cnil) (kc (za rfl) (kD (OK.ret (Ret.r2 (zo rfl rfl) (zo rfl rfl) ?_))))))
     rw[hT]
     try rfl
    ·
     have hT:=rcpP_0 h20 hok hem (Decidable.not_not.1 c31)
     refine OK.skip (kp (kc (zm rfl) (kc (za rfl) (kc (zi rfl rfl) (kD (OK.ret (Ret.r2 (zo rfl rfl) (zo rfl rfl) ?_)))))))
     rw[hT]
     try rfl
end Go.Proofs.YtpbalelbenmmbaaGreatDoor
