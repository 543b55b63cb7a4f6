import Derived.Test.YtpbalelbenmmbaaGreatDoorHz
import Derived.Test.YtpbalelbenmmbaaGreatDoorWc
namespace Go.Proofs.YtpbalelbenmmbaaGreatDoor
open Go.Ab
theorem firstE2(a b:Int):firstE [a,b]=if a≠0 then a else b:=by
 simp only[firstE]
 split
 ·rfl
 ·split
  ·rfl
  ·omega
theorem firstE3(a b c:Int):firstE [a,b,c]=if a≠0 then a else if b≠0 then b else c:=by
 simp only[firstE]
 split
 ·rfl
 ·split
  ·rfl
  ·split
   ·rfl
   ·omega
theorem unlessE_of{p:Prop}[Decidable p]{e:Int}(h:p):unlessE (decide p) e=0:=by simp[unlessE,h]
theorem unlessE_not{p:Prop}[Decidable p]{e:Int}(h:¬p):unlessE (decide p) e=e:=by simp[unlessE,h]
theorem planChk_0{p:Plan}(h:p.channels.length=0):planChk p=(0,10):=by simp[planChk,h]
theorem planChk_4{p:Plan}(h:4<p.channels.length):planChk p=(0,8):=by
 rw[planChk,if_neg (by omega),if_pos h]
theorem planChk_r{p:Plan}(h:¬p.channels.length=0)(h4:¬4<p.channels.length):
  planChk p=if(eachGo (chanErr p.channels) 0 p.channels).2≠0 then eachGo (chanErr p.channels) 0 p.channels else(0,if 1≤p.ticks∧p.ticks≤12 then 0 else 2):=by
 rw[planChk,if_neg h,if_neg h4]
theorem planHead(p:Plan):firstE [unlessE (decide ((p.channels.length:Int)>0)) 10,unlessE (decide ((p.channels.length:Int)≤4)) 8]=if p.channels.length=0 then 10 else if 4<p.channels.length then 8 else 0:=by
 rw[firstE2]
 by_cases h:p.channels.length=0
 ·rw[unlessE_not (by omega),if_pos h];rfl
 ·by_cases h4:4<p.channels.length
  ·rw[unlessE_of (by omega),unlessE_not (by omega),if_neg h,if_pos h4];rfl
  ·rw[unlessE_of (by omega),unlessE_of (by omega),if_neg h,if_neg h4];rfl
theorem planHead_ne{p:Plan}(c:firstE [unlessE (decide ((p.channels.length:Int)>0)) 10,unlessE (decide ((p.channels.length:Int)≤4)) 8]≠0):
  (0,firstE [unlessE (decide ((p.channels.length:Int)>0)) 10,unlessE (decide ((p.channels.length:Int)≤4)) 8])=planChk p:=by
 rw[planHead]at c⊢
 by_cases h:p.channels.length=0
 ·rw[if_pos h,planChk_0 h]
 ·rw[if_neg h]at c⊢
  by_cases h4:4<p.channels.length
  ·rw[if_pos h4,planChk_4 h4]
  ·rw[if_neg h4]at c;exact absurd rfl c
theorem planHead_eq{p:Plan}(c:¬firstE [unlessE (decide ((p.channels.length:Int)>0)) 10,unlessE (decide ((p.channels.length:Int)≤4)) 8]≠0):¬p.channels.length=0∧¬4<p.channels.length:=by
 rw[planHead]at c
 refine⟨fun h=>c (by rw[if_pos h];decide),fun h=>c (by rw[if_neg (by omega),if_pos h];decide)⟩
theorem lt_of_get{α:Type}{l:List α}{i:Nat}{x:α}(h:l[i]?=some x):i≤l.length:=Nat.le_of_lt (List.getElem?_eq_some_iff.1 h).1
theorem ite_unless{p:Prop}[Decidable p]{e:Int}:unlessE (decide p) e=if p then 0 else e:=by simp only[unlessE,decide_eq_true_eq]
def planErr(p:Plan):Int:=(planChk p).2
theorem mon_CheckPlan{p:Plan}:Ct Tryz.prog 107 [.agg p.cs] (pair (planChk p)):=by
 refine Ct.intro (rs:=[.tmp 2,.tmp 3]) Tryz.func107 rfl Tryz.ntmps107 Tryz.results107 rfl rfl rfl fun w h=>?_
 refine kr (RK.c (zB (c:=1) rfl rfl) (kc (zi rfl rfl) (kc (zi rfl rfl) (kD (kO (kO (OK.regionDraw follows (.c (zf fi105_0 rfl) (.c (zl ti103 rfl rfl rfl rfl) (.c (zk si103 rfl) (.c (S.gtr .none rfl (zt rfl) (.cint rfl)) (.c (S.call (monitor_unless) Tryz.call164 .none rfl (zc rfl (.cons (.cint rfl) .nil)) rfl) (.c (zf fi105_0 rfl) (.c (zl ti103 rfl rfl rfl rfl) (.c (zk si103 rfl) (.c (S.leq .none rfl (zt rfl) (.cint rfl)) (.c (S.call (monitor_unless) Tryz.call164 .none rfl (zc rfl (.cons (.cint rfl) .nil)) rfl) (.c (S.mkSlice (k:=17) (rows:=[[_],[_]]) ai184 .none rfl (zc rfl (zc rfl .nil)) rfl rfl rfl rfl rfl rfl rfl) (.c (S.callL (monitor_first (l:=[_,_])) Tryz.call163 .none rfl (zc rfl .nil) (.cons (.p (.own rfl rfl) rfl) .nil) rfl) (.c (za rfl) .nil))))))))))))) (by kernel_rfl) ?_)))))))
 refine kp (kc (zm rfl) (kc (zN rfl rfl) (kD (kB rfl (fun c20=>?_) (fun c20=>?_)))))
 ·
  refine kr (kc (zm rfl) (kc (zi rfl rfl) (kc (za rfl) (kD (OK.ret (Ret.r2 (zo rfl rfl) (zo rfl rfl) ?_))))))
  exact ret_p (planHead_ne c20)
 ·
  refine OK.skip (kp (kc (zf fi105_0 rfl) (kc (zl ti103 rfl rfl rfl rfl) (kc (S.makeFunc1 .none rfl (zt rfl) rfl) (kc (S.callL (each_List_UInt8 (l:=p.channels) (g:=chanErr p.channels) (caps:=[.eptr p.cs]) (fun i x hx=>mon_chan (lt_of_get hx)) Tryz.call166 ⟨rfl,rfl⟩) Tryz.call165 .none rfl (zc rfl (zc rfl .nil)) (.cons (.same rfl) (.cons (.fn (.cons (.ptr rfl rfl rfl rfl) .nil)) .nil)) rfl) ?_)))))
  refine kc (zm rfl) (kc (zX rfl rfl rfl) (kc (zX rfl rfl rfl) (kc (za rfl) (kc (za rfl) (kD (kO (kr ?_)))))))
  refine kc (zm rfl) (kc (zN rfl rfl) (kD (kB rfl (fun c30=>?_) (fun c30=>?_))))
  ·
   refine kr (kc (zm rfl) (kc (zm rfl) (kc (za rfl) (kc (za rfl) (kD (OK.ret (Ret.r2 (zo rfl rfl) (zo rfl rfl) ?_)))))))
   obtain⟨h1,h2⟩:=planHead_eq c20
   refine ret_p ?_
   rw[planChk_r h1 h2,if_pos c30]
  ·
   refine OK.skip (kp (kc (zf fi105_1 rfl) (kc (zl ti3 rfl rfl rfl rfl) (kc (S.call (mon_within) Tryz.call168 .none rfl (zc rfl (.cons (.cint rfl) (.cons (.cint rfl) .nil))) rfl) (kc (S.call (monitor_unless) Tryz.call164 .none rfl (zc rfl (.cons (.cint rfl) .nil)) rfl) (kc (zi rfl rfl) (kc (za rfl) (kD (OK.ret (Ret.r2 (zo rfl rfl) (zo rfl rfl) ?_))))))))))
   obtain⟨h1,h2⟩:=planHead_eq c20
   refine ret_p ?_
   rw[planChk_r h1 h2,if_neg c30,ite_unless]
end Go.Proofs.YtpbalelbenmmbaaGreatDoor
namespace Go.Proofs.YtpbalelbenmmbaaGreatDoor
open Go.Ab
theorem planLoop{p:Plan}{i:Nat}(h:i<p.channels.length)(hg:eachGo (chanErr p.channels) 0 p.channels=eachGo (chanErr p.channels) i (p.channels.drop i)):
  eachGo (chanErr p.channels) 0 p.channels=if chanErr p.channels i p.channels[i]≠0 then((i:Int),chanErr p.channels i p.channels[i])else eachGo (chanErr p.channels) (i+1) (p.channels.drop (i+1)):=by
 rw[hg,eachGo_drop _ h]
theorem valuesErr_eq(p:Plan)(l:List Int):firstE [unlessE (decide ((l.length:Int)=p.channels.length)) 10,unlessE (!l.any fun x=>!isVal x) 2]=valuesErr p l:=by
 rw[firstE2,valuesErr]
 have e:(!l.any fun x=>!isVal x)=l.all isVal:=by
  induction l with
  |nil=>rfl
  |cons x l ih=>rw[List.any_cons,List.all_cons,←ih];cases isVal x<;>simp
 rw[e]
 by_cases h:l.length=p.channels.length
 ·rw[unlessE_of (by omega)]
  simp[h,unlessE]
 ·rw[unlessE_not (by omega)]
  simp[h]
def lostGo:Nat→List Row→List Int
 |_,[]=>[]
 |i,x::l=>if x.known=true then lostGo (i+1) l else(i:Int)::lostGo (i+1) l
theorem lostGo_drop{l:List Row}{i:Nat}(h:i<l.length):lostGo i (l.drop i)=if l[i].known=true then lostGo (i+1) (l.drop (i+1))else(i:Int)::lostGo (i+1) (l.drop (i+1)):=by
 rw[List.drop_eq_getElem_cons h,lostGo]
def lostT(r:Record):List Int:=lostGo 0 r.rows
theorem take_snoc{α:Type}{l:List α}{i:Nat}(h:i<l.length):l.take i++[l[i]]=l.take (i+1):=by simp
theorem ref_CheckPlan{p:Plan}:Ct Tryz.prog 109 [.agg p.cs] (pair (planChk p)):=by
 refine Ct.intro (rs:=[.tmp 2,.tmp 3]) Tryz.func109 rfl Tryz.ntmps109 Tryz.results109 rfl rfl rfl fun w h=>?_
 refine kr (RK.c (zB (c:=1) rfl rfl) (kc (zi rfl rfl) (kc (zi rfl rfl) (kD (kO (kr ?_))))))
 refine kc (zf fi105_0 rfl) (kc (zl ti103 rfl rfl rfl rfl) (kc (zk si103 rfl) (kc (zE rfl rfl) (kD (kB rfl (fun c8=>?_) (fun c8=>?_))))))
 ·
  refine kr (kc (zi rfl rfl) (kc (zi rfl rfl) (kD (OK.ret (Ret.r2 (zo rfl rfl) (zo rfl rfl) ?_)))))
  exact ret_p (planChk_0 (by omega)).symm
 ·
  refine OK.skip (Ab.D.code (kO (kr ?_)))
  refine kc (zf fi105_0 rfl) (kc (zl ti103 rfl rfl rfl rfl) (kc (zk si103 rfl) (kc (S.gtr .none rfl (zt rfl) (.cint rfl)) (kD (kB rfl (fun c12=>?_) (fun c12=>?_))))))
  ·
   refine kr (kc (zi rfl rfl) (kc (zi rfl rfl) (kD (OK.ret (Ret.r2 (zo rfl rfl) (zo rfl rfl) ?_)))))
   exact ret_p (planChk_4 (by omega)).symm
  ·
   refine OK.skip (Ab.D.code (kO (kr ?_)))
   refine kc (zi rfl rfl) (kD (OK.block (OK.loop (G:=Nat) [1] (fun i=>[(1,.ptr 1 0),(4,.int .i64 i),(1001,.box p.cs)]) (fun i=>i≤p.channels.length∧eachGo (chanErr p.channels) 0 p.channels=eachGo (chanErr p.channels) i (p.channels.drop i)) (fun i=>p.channels.length - i) 0 ⟨Nat.zero_le _,rfl⟩ ⟨rfl,rfl,rfl,trivial⟩ (fun _=>rfl) ?_)))
   rintro i ⟨hi,hg⟩
   refine OK.seq (kr ?_)
   refine kc (zm rfl) (kc (zf fi105_0 rfl) (kc (zl ti103 rfl rfl rfl rfl) (kc (zk si103 rfl) (kc (S.lss .none rfl (zt rfl) (zt rfl)) (kD (kB rfl (fun c17=>?_) (fun c17=>?_)))))))
   ·
    refine OK.skip (Ab.D.code (kO (OK.block (OK.seq (kr ?_)))))
    refine kc (zf fi105_0 rfl) (kc (zl ti103 rfl rfl rfl rfl) (kc (zm rfl) (kc (S.indexM si103 .none rfl (zt rfl) (zt rfl) rfl (by omega) rfl) (kc (zV ti9 rfl rfl) (kc (S.call (base_IsName) Tryz.call43 .none rfl (zc rfl .nil) rfl) (kc (S.not .none rfl (zt rfl)) (kD (OK.cond rfl rfl (fun c26=>?_) (fun c26=>?_)))))))))
    ·
     refine kr (kc (zm rfl) (kc (za rfl) (kc (zi rfl rfl) (kD (OK.ret (Ret.r2 (zo rfl rfl) (zo rfl rfl) ?_))))))
     have e:chanErr p.channels i p.channels[i]=4:=by rw[chanErr,if_pos (by simpa using c26)]
     refine ret_p ?_
     rw[planChk_r (by omega) (by omega),planLoop (by omega) hg,e]
     rfl
    ·
     refine OK.skip (Ab.D.code (kO (OK.regionDraw follows (.c (zf fi105_0 rfl) (.c (zl ti103 rfl rfl rfl rfl) (.c (zm rfl) (.c (S.slice (hi:=i) (l':=p.channels.take i) si103 (fun _=>rfl) .none rfl (zt rfl) (.inl ⟨rfl,rfl,rfl⟩) (.inr ⟨_,_,rfl,(zt rfl),rfl⟩) (Nat.zero_le _) (by omega) rfl) (.c (zf fi105_0 rfl) (.c (zl ti103 rfl rfl rfl rfl) (.c (zm rfl) (.c (S.indexM si103 .none rfl (zt rfl) (zt rfl) rfl (by omega) rfl) (.c (zV ti9 rfl rfl) (.c (S.call (base_HasText) Tryz.call70 .none rfl (zc rfl (zc rfl .nil)) rfl) .nil)))))))))) (by kernel_rfl) ?_)))
     refine Ab.D.code (OK.cond rfl rfl (fun c37=>?_) (fun c37=>?_))
     ·
      refine kr (kc (zm rfl) (kc (za rfl) (kc (zi rfl rfl) (kD (OK.ret (Ret.r2 (zo rfl rfl) (zo rfl rfl) ?_))))))
      have e:chanErr p.channels i p.channels[i]=5:=by rw[chanErr,if_neg (by simpa using c26),if_pos c37]
      refine ret_p ?_
      rw[planChk_r (by omega) (by omega),planLoop (by omega) hg,e]
      rfl
     ·
      refine OK.skip (Ab.D.blk (Ab.D.code (OK.reg ?_)))
      refine kc (zm rfl) (kc (zp rfl rfl (by omega)) (kc (za rfl) (RK.nil (Ab.D.lp ⟨i+1,⟨by omega,?_⟩,(by omega),rfl,rfl,rfl,trivial⟩))))
      have e:chanErr p.channels i p.channels[i]=0:=by rw[chanErr,if_neg (by simpa using c26),if_neg (by simp[c37])]
      rw[planLoop (by omega) hg,e]
      rfl
   ·
    refine OK.exit rfl (Ab.D.code (kO (kr ?_)))
    refine kc (zf fi105_1 rfl) (kc (zl ti3 rfl rfl rfl rfl) (kc (S.call (base_Within) Tryz.call35 .none rfl (zc rfl (.cons (.cint rfl) (.cons (.cint rfl) .nil))) rfl) (kc (S.notD .none rfl (zt rfl)) (kD (kB rfl (fun c42=>?_) (fun c42=>?_))))))
    ·
     refine kr (kc (zi rfl rfl) (kc (zi rfl rfl) (kD (OK.ret (Ret.r2 (zo rfl rfl) (zo rfl rfl) ?_)))))
     have:i=p.channels.length:=by omega
     rw[this,List.drop_length,eachGo]at hg
     refine ret_p ?_
     rw[planChk_r (by omega) (by omega),hg,if_neg (by simp),if_neg c42]
    ·
     refine OK.skip (kp (kc (zi rfl rfl) (kc (zi rfl rfl) (kD (OK.ret (Ret.r2 (zo rfl rfl) (zo rfl rfl) ?_))))))
     have:i=p.channels.length:=by omega
     rw[this,List.drop_length,eachGo]at hg
     refine ret_p ?_
     rw[planChk_r (by omega) (by omega),hg,if_neg (by simp),if_pos (by omega)]
theorem ref_PlanErr{p:Plan}:Ct Tryz.prog 71 [.agg p.cs] (.int .i64 (planErr p)):=by
 refine Ct.intro (rs:=[.tmp 2]) Tryz.func71 rfl Tryz.ntmps71 Tryz.results71 rfl rfl rfl fun w h=>?_
 refine kr (RK.c (zB (c:=1) rfl rfl) (kc (zi rfl rfl) (kq (kc (zL ti105 rfl rfl rfl rfl) (kc (S.call (ref_CheckPlan) Tryz.call109 .none rfl (zc rfl .nil) rfl) (kc (zm rfl) (kc (zX rfl rfl rfl) (kc (zX rfl rfl rfl) (kc (za rfl) (kc (za rfl) (kq ?_)))))))))))
 refine kc (zm rfl) (kc (za rfl) (kD (OK.ret (Ret.r1 (zo rfl rfl) ?_))))
 rfl
theorem mon_open{p:Plan}:Ct Tryz.prog 228 [.agg p.cs] (.tup [.agg p.cs,.int .i64 (planErr p)]):=by
 refine Ct.intro (rs:=[.cell 2 319,.tmp 3]) Tryz.func228 rfl Tryz.ntmps228 Tryz.results228 rfl rfl rfl fun w h=>?_
 refine kr (RK.c (zB (c:=1) rfl rfl) (RK.c (zA (c:=2) ze319 rfl) (kc (zi rfl rfl) (kq (kc (zL ti105 rfl rfl rfl rfl) (kc (S.call (mon_CheckPlan) Tryz.call107 .none rfl (zc rfl .nil) rfl) (kc (zm rfl) (kc (zX rfl rfl rfl) (kc (zX rfl rfl rfl) (kc (za rfl) (kc (za rfl) ?_)))))))))))
 refine kq (kc (zL ti105 rfl rfl rfl rfl) (kc (S.build bu319 rfl .none rfl (zc rfl .nil) rfl rfl) (kc (zm rfl) (kc (zS ti319 rfl rfl rfl rfl rfl rfl) (kc (za rfl) (kD (OK.ret (Ret.r2 (.cellN rfl rfl rfl rfl ti319 rfl (.k (.same rfl) (.k (.same rfl) .z))) (zo rfl rfl) ?_))))))))
 rfl
theorem mon_odd{n:Int}:Ct Tryz.prog 319 [.int .i64 n] (.bool (!isVal n)):=by
 refine Ct.intro (rs:=[.tmp 2]) Tryz.func319 rfl Tryz.ntmps319 Tryz.results319 rfl rfl rfl fun w h=>?_
 refine kr (kc (zb rfl) (kq (kc (zm rfl) (kc (S.call (mon_isValue) Tryz.call320 .none rfl (zc rfl .nil) rfl) (kc (S.notD .none rfl (zt rfl)) (kc (za rfl) (kD (OK.ret (Ret.r1 (zo rfl rfl) ?_)))))))))
 exact ret_b (by simp only[isVal,decide_not])
theorem mon_valuesErr{p:Plan}{l:List Int}:Ct Tryz.prog 276 [.agg p.cs,ints l] (.int .i64 (valuesErr p l)):=by
 refine Ct.intro (rs:=[.tmp 4]) Tryz.func276 rfl Tryz.ntmps276 Tryz.results276 rfl rfl rfl fun w h=>?_
 refine kr (RK.c (zB (c:=2) rfl rfl) (kc (zi rfl rfl) (kq (kc (zm rfl) (kc (S.call (containsFunc_int (l:=l) (g:=fun n=>!isVal n) (caps:=[]) (fun x _=>mon_odd) Tryz.call319 ⟨rfl,rfl⟩) Tryz.call318 .none rfl (zc rfl (.cons .cfn .nil)) rfl) ?_)))))
 refine kc (za rfl) (kq (kc (zm rfl) (kc (zk si47 rfl) (kc (zf fi319_0 rfl) (kc (zf fi105_0 rfl) (kc (zl ti103 rfl rfl rfl rfl) (kc (zk si103 rfl) (kc (S.eql .none rfl (zt rfl) (zt rfl)) (kc (S.call (monitor_unless) Tryz.call164 .none rfl (zc rfl (.cons (.cint rfl) .nil)) rfl) (kc (zm rfl) (kc (S.not .none rfl (zt rfl)) ?_)))))))))))
 refine kc (S.call (monitor_unless) Tryz.call164 .none rfl (zc rfl (.cons (.cint rfl) .nil)) rfl) (RK.c (S.mkSlice (k:=19) (rows:=[[_],[_]]) ai184 .none rfl (zc rfl (zc rfl .nil)) rfl rfl rfl rfl rfl rfl rfl) (kc (S.callL (monitor_first (l:=[_,_])) Tryz.call163 .none rfl (zc rfl .nil) (.cons (.p (.own rfl rfl) rfl) .nil) rfl) (kc (za rfl) (kD (OK.ret (Ret.r1 (zo rfl rfl) ?_))))))
 exact ret_i (valuesErr_eq p l)
theorem mon_row{p:Plan}{i:Nat}{x:Row}:Ct Tryz.prog 326 [.int .i64 i,.agg x.cs,.eptr p.cs] (.int .i64 (rowErr p x)):=by
 refine Ct.intro (rs:=[.tmp 5]) Tryz.func326 rfl Tryz.ntmps326 Tryz.results326 rfl rfl rfl fun w h=>?_
 refine kr (RK.c (zB (c:=4) rfl rfl) (kc (zi rfl rfl) (kD (kO (kr ?_)))))
 refine kc (zf fi303_0 rfl) (kc (zl ti4 rfl rfl rfl rfl) (kc (S.not .none rfl (zt rfl)) (kD (OK.cond rfl rfl (fun c8=>?_) (fun c8=>?_)))))
 ·
  refine kr (kc (zf fi303_1 rfl) (kc (zl ti47 rfl rfl rfl rfl) (kc (zk si47 rfl) (kc (zE rfl rfl) (kc (S.call (monitor_unless) Tryz.call164 .none rfl (zc rfl (.cons (.cint rfl) .nil)) rfl) (kc (za rfl) (kD (OK.ret (Ret.r1 (zo rfl rfl) ?_)))))))))
  refine ret_i ?_
  rw[rowErr,if_neg (by simpa using c8),ite_unless]
  split<;>split<;>omega
 ·
  refine OK.skip (kp (kc (S.loadN ti319 .none rfl (zt rfl) rfl rfl) (kc (zf fi303_1 rfl) (kc (zl ti47 rfl rfl rfl rfl) (kc (S.call (mon_valuesErr) Tryz.call276 .none rfl (zc rfl (zc rfl .nil)) rfl) (kc (za rfl) (kD (OK.ret (Ret.r1 (zo rfl rfl) ?_)))))))))
  refine ret_i ?_
  rw[rowErr,if_pos (by simpa using c8)]
theorem mon_recordErr{p:Plan}{r:Record}:Ct Tryz.prog 278 [.agg p.cs,.agg r.cs] (pair (recChk p r)):=by
 refine Ct.intro (rs:=[.tmp 4,.tmp 5]) Tryz.func278 rfl Tryz.ntmps278 Tryz.results278 rfl rfl rfl fun w h=>?_
 refine kr (RK.c (zB (c:=2) rfl rfl) (RK.c (zB (c:=3) rfl rfl) (kc (zi rfl rfl) (kc (zi rfl rfl) (kD (kO (kr ?_)))))))
 refine kc (zf fi223_0 rfl) (kc (zl ti221 rfl rfl rfl rfl) (kc (zk si221 rfl) (kc (zf fi319_0 rfl) (kc (zf fi105_1 rfl) (kc (zl ti3 rfl rfl rfl rfl) (kc (S.neq .none rfl (zt rfl) (zt rfl)) (kD (kB rfl (fun c12=>?_) (fun c12=>?_)))))))))
 ·
  refine kr (kc (zi rfl rfl) (kc (zi rfl rfl) (kD (OK.ret (Ret.r2 (zo rfl rfl) (zo rfl rfl) ?_)))))
  refine ret_p ?_
  rw[recChk,if_pos c12]
 ·
  refine OK.skip (kp (kc (zf fi223_0 rfl) (kc (zl ti221 rfl rfl rfl rfl) (kc (S.makeFunc1 .none rfl (zt rfl) rfl) (kc (S.callL (each_Row (l:=r.rows) (g:=fun _ x=>rowErr p x) (caps:=[.eptr p.cs]) (fun i x _=>mon_row) Tryz.call326 ⟨rfl,rfl⟩) Tryz.call325 .none rfl (zc rfl (zc rfl .nil)) (.cons (.same rfl) (.cons (.fn (.cons (.ptr rfl rfl rfl rfl) .nil)) .nil)) rfl) ?_)))))
  refine kc (zX rfl rfl rfl) (kc (zX rfl rfl rfl) (kc (za rfl) (kc (za rfl) (kD (OK.ret (Ret.r2 (zo rfl rfl) (zo rfl rfl) ?_))))))
  refine ret_p ?_
  rw[recChk,if_neg c12]
theorem mon_lost{r:Record}(hlen:r.rows.length≤100000):Ct Tryz.prog 232 [.agg r.cs] (ints (lostT r)):=by
 refine Ct.intro (rs:=[.tmp 2]) Tryz.func232 rfl Tryz.ntmps232 Tryz.results232 rfl rfl rfl fun w h=>?_
 refine kr (RK.c (zB (c:=1) rfl rfl) (kc (S.assign .none rfl .cnil) (kq (RK.c (S.nilOwn (k:=3) (sz:=1) .none rfl) (kD (kO (kr ?_)))))))
 refine kc (zf fi223_0 rfl) (kc (zl ti221 rfl rfl rfl rfl) (kc (zk si221 rfl) (kc (S.move .none rfl (.cint rfl)) (kD (OK.block ?_)))))
 refine OK.loop2 [3] (fun(i:Nat)(out:List Int)=>[(3,.own 3 out.length),(2003,.arr 1 (out.map fun n=>[.int .i64 n])),(7,.sl (r.rows.map Row.cs)),(8,.int .i64 r.rows.length),(9,.int .i64 i)]) (fun i out=>i≤r.rows.length∧out.length≤i∧lostT r=out++lostGo i (r.rows.drop i)) (fun i out=>r.rows.length - i) (0) ([]) ⟨Nat.zero_le _,Nat.le_refl _,rfl⟩ ⟨(lk_own (by first|rfl|(simp;done)|(simp;omega))),(lk_arr (by first|rfl|(simp;done)|(simp;omega))),rfl,rfl,rfl,trivial⟩ (fun _ _=>rfl) ?_
 rintro i out ⟨hi,ho,hg⟩
 refine kr (kc (S.lss .none rfl (zt rfl) (zt rfl)) (kD (kO (kB rfl (fun c10=>?_) (fun c10=>?_)))))
 ·
  refine OK.skip (Ab.D.code (kO (OK.block (kr (kc (zm rfl) (kc (S.indexM si221 .none rfl (zt rfl) (zt rfl) rfl (by omega) rfl) (kc (S.loadN ti303 .none rfl (zt rfl) rfl rfl) (RK.c (zA (c:=5) ze303 rfl) (kc (za rfl) (kc (zS ti303 rfl rfl rfl rfl rfl rfl) (kq ?_)))))))))))
  refine kc (zf fi303_0 rfl) (kc (zl ti4 rfl rfl rfl rfl) (kc (S.not .none rfl (zt rfl)) (kD (OK.cond rfl rfl (fun c16=>?_) (fun c16=>?_)))))
  ·
   refine OK.reg (kc (zm rfl) (kc (zm rfl) (RK.c (S.mkSlice (k:=19) (rows:=[[_]]) ai47 .none rfl (zc rfl .nil) rfl rfl rfl rfl rfl rfl rfl) ?_)))
   refine RK.c (S.append ai47 .none rfl (zt rfl) rfl (by simp) (zt rfl) rfl (by first|rfl|(simp;done)|(simp;omega)) (by omega) (by simp only[maxLen];omega)) ?_
   refine kc (za rfl) (RK.nil (Ab.D.blk (Ab.D.code (OK.reg ?_))))
   refine kc (zp rfl rfl (by omega)) (kc (zm rfl) (RK.nil ?_))
   refine Ab.D.lp ⟨i+1,out++[(i:Int)],⟨by omega,by first|omega|(simp only[List.length_append,List.length_cons,List.length_nil];omega),?_⟩,(by omega),(lk_own (by first|rfl|(simp;done)|(simp;omega))),(lk_arr (by first|rfl|(simp;done)|(simp;omega))),rfl,rfl,rfl,trivial⟩
   rw[hg,lostGo_drop (by omega),if_neg (by simpa using c16),List.append_assoc,List.singleton_append]
  ·
   refine OK.skip (Ab.D.blk (Ab.D.code (OK.reg ?_)))
   refine kc (zp rfl rfl (by omega)) (kc (zm rfl) (RK.nil ?_))
   refine Ab.D.lp ⟨i+1,out,⟨by omega,by first|omega|(simp only[List.length_append,List.length_cons,List.length_nil];omega),?_⟩,(by omega),(lk_own (by first|rfl|(simp;done)|(simp;omega))),(lk_arr (by first|rfl|(simp;done)|(simp;omega))),rfl,rfl,rfl,trivial⟩
   rw[hg,lostGo_drop (by omega),if_pos (by simpa using c16)]
 ·
  refine OK.exit rfl (kp (kc (zm rfl) (kc (za rfl) (kD ?_))))
  refine OK.ret (Ret.r1 (.tmp rfl rfl (.c (.own rfl rfl (by first|rfl|(simp;done)|(simp;omega))) rfl) rfl) ?_)
  have:i=r.rows.length:=by omega
  subst this
  rw[hg,List.drop_length,lostGo,List.append_nil]
  rfl
end Go.Proofs.YtpbalelbenmmbaaGreatDoor
