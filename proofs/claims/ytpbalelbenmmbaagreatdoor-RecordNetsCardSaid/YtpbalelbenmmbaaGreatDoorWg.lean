import Derived.Test.YtpbalelbenmmbaaGreatDoorHz
import Derived.Test.YtpbalelbenmmbaaGreatDoorSh
import Derived.Test.YtpbalelbenmmbaaGreatDoorWd
namespace Go.Proofs.YtpbalelbenmmbaaGreatDoor
open Go.Ab
theorem sortsI:SortsI Tryz.prog 63:=⟨fun blk off cap zs w h1 h2 h3=>Tryz.slices_Sort_int blk off cap zs w h1 h2 h3,fun p cap w=>Tryz.slices_Sort_int_none p cap w⟩
theorem sort_len(zs:List Int):(zs.mergeSort fun x y=>decide (x≤y)).length=zs.length:=(List.mergeSort_perm zs _).length_eq
end Go.Proofs.YtpbalelbenmmbaaGreatDoor
namespace Go.Proofs.YtpbalelbenmmbaaGreatDoor
open Go.Ab
def p2(q:Int×Int):List X:=[.int .i64 q.1,.int .i64 q.2]
end Go.Proofs.YtpbalelbenmmbaaGreatDoor
namespace Go.Proofs.YtpbalelbenmmbaaGreatDoor
open Go.Ab
def trimErr(t n:Int):Int:=if 0≤t∧t≤(n - 1).tdiv 2 then 0 else 2
theorem tdiv2_bd{n:Int}(hn: -1000000000000≤n∧n≤1000000000000): -9223372036854775808≤(n - 1).tdiv 2∧(n - 1).tdiv 2≤9223372036854775807:=by
 by_cases h:0≤n - 1
 ·have:=Int.tdiv_eq_ediv_of_nonneg (b:=2) h
  omega
 ·have h1:=Int.neg_tdiv (n - 1) 2
  have h2:=Int.tdiv_eq_ediv_of_nonneg (a:= -(n - 1)) (b:=2) (by omega)
  omega
def gcdGo:Nat→Int→Int→Int
 |0,a,_=>a
 |f+1,a,b=>if b=0 then a else gcdGo f b (a.tmod b)
def gcdT(a b:Int):Int:=gcdGo (b.toNat+1) a b
def recsErr1(p:Plan)(r:Record):Int:=if(recChk p r).2≠0 then(recChk p r).2 else if(lostT r).length=0 then 0 else 14
def recsErr(p:Plan)(l:List Record):Int:=if l.length=0 then 10 else if 20<l.length then 8 else(eachGo (fun _ r=>recsErr1 p r) 0 l).2
def openRecs(p:Plan)(l:List Record):Int:=if planErr p≠0 then planErr p else recsErr p l
theorem recChk_len{p:Plan}{r:Record}(h:(recChk p r).2=0):(r.rows.length:Int)=p.ticks:=by
 unfold recChk at h
 split at h
 ·contradiction
 ·omega
theorem planErr_0{p:Plan}(h:planErr p=0):1≤p.channels.length∧p.channels.length≤4∧1≤p.ticks∧p.ticks≤12∧(eachGo (chanErr p.channels) 0 p.channels).2=0:=by
 unfold planErr planChk at h
 split at h
 ·contradiction
 ·split at h
  ·contradiction
  ·split at h
   ·contradiction
   ·rename_i h3
    by_cases h4:1≤p.ticks∧p.ticks≤12
    ·refine⟨by omega,by omega,h4.1,h4.2,?_⟩
     simpa using h3
    ·rw[if_neg h4]at h;contradiction
theorem trimErr_0{t n:Int}(hn:1≤n)(h:trimErr t n=0):0≤t∧2 * t≤n - 1:=by
 unfold trimErr at h
 split at h
 ·have:=Int.tdiv_eq_ediv_of_nonneg (a:=n - 1) (b:=2) (by omega)
  omega
 ·contradiction
theorem mon_trimErr{t n:Int}(hn: -1000000000000≤n∧n≤1000000000000):Ct Tryz.prog 247 [.int .i64 t,.int .i64 n] (.int .i64 (trimErr t n)):=by
 refine Ct.intro (rs:=[.tmp 4]) Tryz.func247 rfl Tryz.ntmps247 Tryz.results247 rfl rfl rfl fun w h=>?_
 refine kr (kc (zi rfl rfl) (kq (kc (zm rfl) (kc (zm rfl) (kc (S.sub .none rfl (zt rfl) (.cint rfl) (IntWalk.i64_in _ (by omega)) (IntWalk.i64_in _ (by omega))) (kc (S.quo .none rfl (zt rfl) (.cint rfl) (by decide) (IntWalk.i64_in _ (tdiv2_bd hn)) (IntWalk.i64_in _ (tdiv2_bd hn))) (kc (S.call (mon_within) Tryz.call168 .none rfl (zc rfl (.cons (.cint rfl) (zc rfl .nil))) rfl) (kc (S.call (monitor_unless) Tryz.call164 .none rfl (zc rfl (.cons (.cint rfl) .nil)) rfl) (kc (za rfl) (kD (OK.ret (Ret.r1 (zo rfl rfl) ?_))))))))))))
 exact ret_i ite_unless
theorem mon_record1{p:Plan}{i:Nat}{r:Record}(hp:planErr p=0):Ct Tryz.prog 299 [.int .i64 i,.agg r.cs,.eptr p.cs] (.int .i64 (recsErr1 p r)):=by
 refine Ct.intro (rs:=[.tmp 5]) Tryz.func299 rfl Tryz.ntmps299 Tryz.results299 rfl rfl rfl fun w h=>?_
 refine kr (RK.c (zB (c:=4) rfl rfl) (kc (zi rfl rfl) (kD (kO (kr ?_)))))
 refine kc (S.loadN ti319 .none rfl (zt rfl) rfl rfl) (kc (zL ti223 rfl rfl rfl rfl) (kc (S.call (mon_recordErr) Tryz.call278 .none rfl (zc rfl (zc rfl .nil)) rfl) (kc (zm rfl) (kc (zX rfl rfl rfl) (kc (zX rfl rfl rfl) (kc (za rfl) (kc (za rfl) (kq (kc (zm rfl) (kc (zN rfl rfl) (kD ?_)))))))))))
 refine kB rfl (fun c15=>?_) (fun c15=>?_)
 ·
  refine kr (kc (zm rfl) (kc (za rfl) (kD (OK.ret (Ret.r1 (zo rfl rfl) ?_)))))
  refine ret_i ?_
  rw[recsErr1,if_pos c15]
 ·
  refine OK.skip (kp (kc (zL ti223 rfl rfl rfl rfl) ?_))
  refine kc (S.call (mon_lost (by have:=planErr_0 hp;have:=recChk_len (p:=p) (r:=r) (by omega);omega)) Tryz.call232 .none rfl (zc rfl .nil) rfl) ?_
  refine kc (zk si47 rfl) (kc (zE rfl rfl) (kc (S.call (monitor_unless) Tryz.call164 .none rfl (zc rfl (.cons (.cint rfl) .nil)) rfl) (kc (za rfl) (kD (OK.ret (Ret.r1 (zo rfl rfl) ?_))))))
  refine ret_i ?_
  rw[recsErr1,if_neg c15,ite_unless]
  split<;>split<;>omega
theorem mon_openRecords{p:Plan}{l:List Record}:Ct Tryz.prog 246 [.agg p.cs,.sl (l.map Record.cs)] (.tup [.agg p.cs,.int .i64 (openRecs p l)]):=by
 refine Ct.intro (rs:=[.cell 4 319,.tmp 5]) Tryz.func246 rfl Tryz.ntmps246 Tryz.results246 rfl rfl rfl fun w h=>?_
 refine kr (RK.c (zB (c:=2) rfl rfl) (RK.c (zA (c:=4) ze319 rfl) (kc (zi rfl rfl) (kq (kc (zL ti105 rfl rfl rfl rfl) (kc (S.call (mon_open) Tryz.call228 .none rfl (zc rfl .nil) rfl) (kc (zm rfl) (kc (zX rfl rfl rfl) (kc (zX rfl rfl rfl) (RK.c (zA (c:=6) ze319 rfl) (kc (zS ti319 rfl rfl rfl rfl rfl rfl) ?_)))))))))))
 refine kc (za rfl) (kD (kO (kr ?_)))
 refine kc (zm rfl) (kc (zm rfl) (kc (zk si226 rfl) (kc (S.gtr .none rfl (zt rfl) (.cint rfl)) (kc (S.call (monitor_unless) Tryz.call164 .none rfl (zc rfl (.cons (.cint rfl) .nil)) rfl) (kc (zm rfl) (kc (zk si226 rfl) (kc (S.leq .none rfl (zt rfl) (.cint rfl)) (kc (S.call (monitor_unless) Tryz.call164 .none rfl (zc rfl (.cons (.cint rfl) .nil)) rfl) (RK.c (S.mkSlice (k:=22) (rows:=[[_],[_],[_]]) ai184 .none rfl (zc rfl (zc rfl (zc rfl .nil))) rfl rfl rfl rfl rfl rfl rfl) (kc (S.callL (monitor_first (l:=[_,_,_])) Tryz.call163 .none rfl (zc rfl .nil) (.cons (.p (.own rfl rfl) rfl) .nil) rfl) (kc (za rfl) ?_)))))))))))
 refine kq (kc (zm rfl) (kc (zN rfl rfl) (kD (kB rfl (fun c25=>?_) (fun c25=>?_)))))
 ·
  refine kr (kc (zL ti319 rfl rfl rfl rfl) (kc (zm rfl) (kc (zS ti319 rfl rfl rfl rfl rfl rfl) (kc (za rfl) (kD (OK.ret (Ret.r2 (.cellN rfl rfl rfl rfl ti319 rfl (.k (.same rfl) (.k (.same rfl) .z))) (zo rfl rfl) ?_)))))))
  refine congrArg (fun z=>X.tup [.agg p.cs,.int .i64 z]) ?_
  rw[openRecs]
  rw[firstE3]at c25⊢
  simp only[ite_unless,recsErr]at c25⊢
  repeat' split at c25
  all_goals (repeat' split)
  all_goals omega
 ·
  rw[firstE3]at c25
  have hp:planErr p=0:=by
   split at c25
   ·contradiction
   ·omega
  have hq:l.length≠0∧¬20<l.length:=by
   rw[hp]at c25
   simp only[ite_unless]at c25
   repeat' split at c25
   all_goals omega
  refine OK.skip (kp (kc (zm rfl) (kc (S.makeFunc1 .none rfl (zt rfl) rfl) (kc (S.callL (each_Record (l:=l) (g:=fun _ r=>recsErr1 p r) (caps:=[.eptr p.cs]) (fun i x _=>mon_record1 hp) Tryz.call299 ⟨rfl,rfl⟩) Tryz.call298 .none rfl (zc rfl (zc rfl .nil)) (.cons (.same rfl) (.cons (.fn (.cons (.ptr rfl rfl rfl rfl) .nil)) .nil)) rfl) ?_))))
  refine kc (zm rfl) (kc (zX rfl rfl rfl) (kc (zX rfl rfl rfl) (kc (za rfl) (kq (kc (zL ti319 rfl rfl rfl rfl) (kc (zm rfl) (kc (zS ti319 rfl rfl rfl rfl rfl rfl) (kc (za rfl) (kD (OK.ret (Ret.r2 (.cellN rfl rfl rfl rfl ti319 rfl (.k (.same rfl) (.k (.same rfl) .z))) (zo rfl rfl) ?_)))))))))))
  refine congrArg (fun z=>X.tup [.agg p.cs,.int .i64 z]) ?_
  rw[openRecs,if_neg (by omega),recsErr,if_neg (by omega),if_neg hq.2]
end Go.Proofs.YtpbalelbenmmbaaGreatDoor
