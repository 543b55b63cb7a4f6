import Derived.Test.YtpbalelbenmmbaaGreatDoorHz
import Derived.Test.YtpbalelbenmmbaaGreatDoorFs
import Derived.Test.YtpbalelbenmmbaaGreatDoorGh
import Derived.Test.YtpbalelbenmmbaaGreatDoorGs
import Derived.Test.YtpbalelbenmmbaaGreatDoorMa
import Derived.Test.YtpbalelbenmmbaaGreatDoorRl
import Derived.Test.YtpbalelbenmmbaaGreatDoorSh
import Derived.Test.YtpbalelbenmmbaaGreatDoorTy
import Derived.Test.YtpbalelbenmmbaaGreatDoorYa
namespace Go.Proofs.YtpbalelbenmmbaaGreatDoor
open Go.Ab
theorem joinI:JoinI Tryz.prog 96:=⟨fun a c sep w=>Tryz.strings_Join_none a c sep w,fun bk o c xs sep w h1 h2 h3 h4 h5=>Tryz.strings_Join bk o c xs sep w h1 h2 h3 h4 h5⟩
def num1(w:List UInt8):Option Int:=if sgnC w 7=true then some (sgnV w)else none
theorem num1_T{w:List UInt8}(h:sgnC w 7=true):num1 w=some (sgnV w):=if_pos h
theorem num1_F{w:List UInt8}(h:sgnC w 7=false):num1 w=none:=if_neg (by rw[h];decide)
theorem numM_T{w:List UInt8}:numM w true 7=sgnC w 7:=(num_sgn (by decide)).1
theorem numM_v{w:List UInt8}(h:sgnC w 7=true):atoiV w=sgnV w:=(num_sgn (d:=7) (by decide)).2 h
theorem sl_HasPrefix{l:List UInt8}{c:UInt8}(hl:l.length≤100000):Ct Tryz.prog 273 [.str l,.str [c]] (.bool (decide (l.head?=some c))):=by
 refine Ct.intro (rs:=[.tmp 4]) Tryz.func273 rfl Tryz.ntmps273 Tryz.results273 rfl rfl rfl fun w h=>?_
 refine kr (kc (zb rfl) (kq (kc (zm rfl) (kc (S.slen Tryz.underlying9 .none rfl (zt rfl)) (kc (zm rfl) (kc (S.slen Tryz.underlying9 .none rfl (zt rfl)) (kc (S.geq .none rfl (zt rfl) (zt rfl)) (kc (zm rfl) (RK.splitD (t:=10) rfl (fun g10=>?_) (fun g10=>?_))))))))))
 ·
  refine kc (S.move (zg rfl rfl) rfl (zt rfl)) (kc (S.move (zg rfl rfl) rfl (zt rfl)) (kc (S.slen Tryz.underlying9 (zg rfl rfl) rfl (zt rfl)) (kc (S.strsl str9 (zg rfl rfl) rfl (zt rfl) (.inl ⟨rfl,rfl,rfl⟩) (.inr ⟨_,_,rfl,(zt rfl),rfl⟩) (by omega) (by omega) rfl) (kc (S.move (zg rfl rfl) rfl (zt rfl)) (kc (S.seql (zg rfl rfl) rfl (zt rfl) (zt rfl)) (kc (S.pickT .none rfl (zt rfl) (zt rfl) rfl) (kc (za rfl) (kD (OK.ret (Ret.r1 (zo rfl rfl) ?_))))))))))
  refine ret_b (decide_eq_decide.2 ?_)
  cases l with
  |nil=>simp at g10
  |cons x r=>simp
 ·
  refine kc (zQ rfl rfl) (kc (zQ rfl rfl) (kc (zQ rfl rfl) (kc (zQ rfl rfl) (kc (zQ rfl rfl) (kc (zQ rfl rfl) (kc (S.pickF .none rfl (zt rfl) .cbool rfl) (kc (za rfl) (kD (OK.ret (Ret.r1 (zo rfl rfl) ?_))))))))))
  refine ret_b (decide_eq_false ?_).symm
  rw[List.length_eq_zero_iff.1 (show l.length=0 by simp at g10;omega)]
  simp
theorem sl_TrimPrefix{l:List UInt8}(hl:l.length≤100000):Ct Tryz.prog 222 [.str l,.str [45]] (.str (trimC l)):=by
 refine Ct.intro (rs:=[.tmp 4]) Tryz.func222 rfl Tryz.ntmps222 Tryz.results222 rfl rfl rfl fun w h=>?_
 refine kr (kc (S.assign .none rfl (.cstr (l:=[]) rfl (by decide))) (kD (kO (kr ?_))))
 refine kc (zm rfl) (kc (zm rfl) (kc (S.call (sl_HasPrefix (l:=l) (c:=45) hl) Tryz.call273 .none rfl (zc rfl (zc rfl .nil)) rfl) (kD (kB rfl (fun c7=>?_) (fun c7=>?_)))))
 ·
  refine kr (kc (zm rfl) (kc (zm rfl) (kc (S.slen Tryz.underlying9 .none rfl (zt rfl)) ?_)))
  refine kc (S.strsl (lo:=1) (l':=l.drop 1) str9 .none rfl (zt rfl) (.inr ⟨_,_,rfl,(zt rfl),rfl⟩) (.inl ⟨rfl,rfl,rfl⟩) (by have:=c7;cases l with|nil=>cases this|cons _ _=>simp) (by omega) (by rw[List.take_length])) ?_
  refine kc (za rfl) (kD (OK.ret (Ret.r1 (zo rfl rfl) ?_)))
  rw[show trimC l=l.drop 1 from if_pos c7]
 ·
  refine OK.skip (kp (kc (zm rfl) (kc (za rfl) (kD (OK.ret (Ret.r1 (zo rfl rfl) ?_))))))
  rw[show trimC l=l from if_neg c7]
theorem str_TrimPrefix{l:List UInt8}(hl:l.length≤100000):Ct Tryz.prog 161 [.str l,.str [45]] (.str (trimC l)):=by
 refine Ct.intro (rs:=[.tmp 4]) Tryz.func161 rfl Tryz.ntmps161 Tryz.results161 rfl rfl rfl fun w h=>?_
 refine kr (kc (S.assign .none rfl (.cstr (l:=[]) rfl (by decide))) (kq (kc (zm rfl) (kc (zm rfl) (kc (S.call (sl_TrimPrefix (by omega)) Tryz.call222 .none rfl (zc rfl (zc rfl .nil)) rfl) (kc (za rfl) (kD (OK.ret (Ret.r1 (zo rfl rfl) ?_)))))))))
 rfl
theorem mon_number{l:List UInt8}{b:Bool}(hl:l.length≤100000):CtT Tryz.prog 104 [.str l,.bool b] (.tup [.int .i64 (atoiV l),.bool (numM l b 7)]):=by
 refine CtT.intro (rs:=[.tmp 4,.tmp 5]) Tryz.func104 rfl Tryz.ntmps104 Tryz.results104 rfl rfl rfl fun w h hT=>?_
 refine kr (kc (zi rfl rfl) (kc (zb rfl) (kq (kc (zm rfl) (kc (S.callT (atoi_ct hl) hT Tryz.call155 .none rfl (zc rfl .nil) rfl) (kc (zm rfl) (kc (zX rfl rfl rfl) (kc (zX rfl rfl rfl) (kc (za rfl) (kc (za rfl) (kq ?_)))))))))))
 refine kc (zm rfl) (kc (zm rfl) (kc (S.eqerr Tryz.underlying244 .none rfl (zt rfl)) (kc (zm rfl) (RK.split (t:=16) rfl (fun g16=>?_) (fun g16=>?_)))))
 ·
  refine kc (S.move (zg rfl rfl) rfl (zt rfl)) (kc (S.callT (itoa_ct (atoi_rng l)) hT Tryz.call142 (zg rfl rfl) rfl (zc rfl .nil) rfl) (kc (S.move (zg rfl rfl) rfl (zt rfl)) (kc (S.seql (zg rfl rfl) rfl (zt rfl) (zt rfl)) (kc (S.pickT .none rfl (zt rfl) (zt rfl) rfl) (kc (zm rfl) (RK.splitD (t:=22) rfl (fun g22=>?_) (fun g22=>?_)))))))
  ·
   refine kc (S.move (zg rfl rfl) rfl (zt rfl)) (kc (S.move (zg rfl rfl) rfl (zt rfl)) (RK.split (t:=24) rfl (fun g24=>?_) (fun g24=>?_)))
   ·
    refine kc (zQ rfl rfl) (kc (zQ rfl rfl) (kc (S.pickT (zg rfl rfl) rfl (zt rfl) .cbool rfl) (kc (S.pickT .none rfl (zt rfl) (zt rfl) rfl) (kc (zm rfl) (kc (S.move (zg rfl rfl) rfl (zt rfl)) (kc (S.call (str_TrimPrefix (l:=l) hl) Tryz.call161 (zg rfl rfl) rfl (zc rfl (.cons (.cstr (l:=[45]) rfl (by decide)) .nil)) rfl) (kc (S.slen Tryz.underlying9 (zg rfl rfl) rfl (zt rfl)) (kc (S.leq (zg rfl rfl) rfl (zt rfl) (.cint rfl)) (kc (S.pickT .none rfl (zt rfl) (zt rfl) rfl) (kc (za rfl) (kc (za rfl) ?_)))))))))))
    refine kD (OK.ret (Ret.r2 (zo rfl rfl) (zo rfl rfl) ?_))
    exact congrArg (fun z=>X.tup [X.int .i64 (atoiV l),X.bool z]) (by unfold numM;simp_all<;>(intros;omega))
   ·
    refine kc (S.move (zg rfl rfl) rfl (zt rfl)) (kc (S.geq (zg rfl rfl) rfl (zt rfl) (.cint rfl)) (kc (S.pickF (zg rfl rfl) rfl (zt rfl) (zt rfl) rfl) (kc (S.pickT .none rfl (zt rfl) (zt rfl) rfl) (kc (zm rfl) (RK.splitD (t:=29) rfl (fun g29=>?_) (fun g29=>?_))))))
    ·
     refine kc (S.move (zg rfl rfl) rfl (zt rfl)) (kc (S.call (str_TrimPrefix (l:=l) hl) Tryz.call161 (zg rfl rfl) rfl (zc rfl (.cons (.cstr (l:=[45]) rfl (by decide)) .nil)) rfl) (kc (S.slen Tryz.underlying9 (zg rfl rfl) rfl (zt rfl)) (kc (S.leq (zg rfl rfl) rfl (zt rfl) (.cint rfl)) (kc (S.pickT .none rfl (zt rfl) (zt rfl) rfl) (kc (za rfl) (kc (za rfl) (kD (OK.ret (Ret.r2 (zo rfl rfl) (zo rfl rfl) ?_)))))))))
     exact congrArg (fun z=>X.tup [X.int .i64 (atoiV l),X.bool z]) (by unfold numM;simp_all<;>(intros;omega))
    ·
     refine kc (zQ rfl rfl) (kc (zQ rfl rfl) (kc (zQ rfl rfl) (kc (zQ rfl rfl) (kc (S.pickF .none rfl (zt rfl) .cbool rfl) (kc (za rfl) (kc (za rfl) (kD (OK.ret (Ret.r2 (zo rfl rfl) (zo rfl rfl) ?_)))))))))
     exact congrArg (fun z=>X.tup [X.int .i64 (atoiV l),X.bool z]) (by unfold numM;simp_all<;>(intros;omega))
  ·
   refine kc (zQ rfl rfl) (kc (zQ rfl rfl) (kc (zu rfl) (kc (zu rfl) (kc (zQ rfl rfl) (kc (S.pickF .none rfl (zt rfl) .cbool rfl) (kc (zm rfl) (kc (zQ rfl rfl) (kc (zQ rfl rfl) (kc (zQ rfl rfl) (kc (zQ rfl rfl) (kc (S.pickF .none rfl (zt rfl) .cbool rfl) ?_)))))))))))
   refine kc (za rfl) (kc (za rfl) (kD (OK.ret (Ret.r2 (zo rfl rfl) (zo rfl rfl) ?_))))
   exact congrArg (fun z=>X.tup [X.int .i64 (atoiV l),X.bool z]) (by unfold numM;simp_all<;>(intros;omega))
 ·
  refine kc (zQ rfl rfl) (kc (zQ rfl rfl) (kc (zQ rfl rfl) (kc (zQ rfl rfl) (kc (S.pickF .none rfl (zt rfl) .cbool rfl) (kc (zm rfl) (kc (zQ rfl rfl) (kc (zQ rfl rfl) (kc (zu rfl) (kc (zu rfl) (kc (zQ rfl rfl) (kc (S.pickF .none rfl (zt rfl) .cbool rfl) ?_)))))))))))
  refine kc (zm rfl) (kc (zQ rfl rfl) (kc (zQ rfl rfl) (kc (zQ rfl rfl) (kc (zQ rfl rfl) (kc (S.pickF .none rfl (zt rfl) .cbool rfl) (kc (za rfl) (kc (za rfl) (kD (OK.ret (Ret.r2 (zo rfl rfl) (zo rfl rfl) ?_))))))))))
  exact congrArg (fun z=>X.tup [X.int .i64 (atoiV l),X.bool z]) (by unfold numM;simp_all<;>(intros;omega))
set_option maxHeartbeats 1000000 in
theorem mon_numbers{l:List (List UInt8)}(hl:l.length≤100000)(hw:∀w∈l,w.length≤100000):CtT Tryz.prog 227 [.sl (l.map fun s=>[.str s])] (.tup [ints ((gath num1 l).getD []),.bool (gath num1 l).isSome]):=by
 refine CtT.intro (rs:=[.tmp 2,.tmp 3]) Tryz.func227 rfl Tryz.ntmps227 Tryz.results227 rfl rfl rfl fun w h hT=>?_
 refine kr (kc (S.assign .none rfl .cnil) (kc (zb rfl) (kq (RK.c (S.nilOwn (k:=4) (sz:=1) .none rfl) (kD (kO (kr ?_)))))))
 refine kc (zm rfl) (kc (zk si103 rfl) (kc (S.move .none rfl (.cint rfl)) (kD (OK.block ?_))))
 refine OK.loop2 [4] (fun(i:Nat)(out:List Int)=>[(4,.own 4 out.length),(2004,.arr 1 (out.map (fun n=>[.int .i64 n]))),(9,.sl (l.map fun s=>[.str s])),(10,.int .i64 l.length),(11,.int .i64 i)]) (fun i out=>i≤l.length∧gath num1 l=(gath num1 (l.drop i)).map (out++ ·)∧out.length≤i) (fun i out=>l.length - i) (0) ([]) ⟨Nat.zero_le _,by rw[List.drop_zero];cases gath num1 l<;>simp,Nat.le_refl _⟩ ⟨(lk_own (by first|rfl|(simp;done)|(simp;omega))),(lk_arr (by first|rfl|(simp;done)|(simp;omega))),rfl,rfl,rfl,trivial⟩ (fun _ _=>rfl) ?_
 rintro i out ⟨hi,hg,hol⟩
 refine kr (kc (S.lss .none rfl (zt rfl) (zt rfl)) (kD (kO (kB rfl (fun c12=>?_) (fun c12=>?_)))))
 ·
  have hil:i<l.length:=by omega
  have hwl:=hw _ (List.getElem_mem hil)
  refine OK.skip (Ab.D.code (kO (OK.block (kr (kc (S.indexM (n:=i) si103 .none rfl (zt rfl) (zt rfl) rfl (by omega) rfl) (kc (zV ti9 rfl rfl) (kc (za rfl) (kq (kc (zm rfl) (kc (S.callT (mon_number (l:=l[i]) (b:=true) hwl) hT Tryz.call104 .none rfl (zc rfl (.cons .cbool .nil)) rfl) (kc (zm rfl) ?_)))))))))))
  refine kc (zX rfl rfl rfl) (kc (zX rfl rfl rfl) (kc (za rfl) (kc (za rfl) (kD (kO (kr ?_))))))
  refine kc (zm rfl) (kc (S.not .none rfl (zt rfl)) (kD (OK.cond rfl rfl (fun c21=>?_) (fun c21=>?_))))
  ·
   have hs:sgnC l[i] 7=false:=by rw[←numM_T];simpa using c21
   have hge:=gath_no hg hil (num1_F hs)
   refine kr (kc (S.assign .none rfl .cnil) (kc (zb rfl) (kD (OK.ret (Ret.r2 (zo rfl rfl) (zo rfl rfl) ?_)))))
   rw[hge]
   all_goals rfl
  ·
   have hs:sgnC l[i] 7=true:=by rw[←numM_T];simpa using c21
   refine OK.skip (Ab.D.code (OK.reg ?_))
   refine kc (zm rfl) (kc (zm rfl) (RK.c (S.mkSlice (k:=24) (rows:=[[_]]) ai47 .none rfl (zc rfl .nil) rfl rfl rfl rfl rfl rfl rfl) ?_))
   refine RK.c (S.append ai47 .none rfl (zt rfl) rfl (by simp) (zt rfl) rfl (by first|rfl|(simp;done)|(simp;omega)) (by omega) (by simp only[maxLen];omega)) ?_
   refine kc (za rfl) (RK.nil (Ab.D.blk (Ab.D.code (OK.reg ?_))))
   refine kc (zp rfl rfl (by omega)) (kc (zm rfl) (RK.nil ?_))
   refine Ab.D.lp ⟨i+1,out++[atoiV l[i]],⟨by omega,gath_on hg hil (by rw[num1_T hs,numM_v hs]),by simp;omega⟩,(by omega),(lk_own (by simp)),(lk_arr (by simp)),rfl,rfl,rfl,trivial⟩
 ·
  have hge:=gath_end hg (show i=l.length by omega)
  refine OK.exit rfl (kp (kc (zm rfl) (kc (za rfl) (kc (zb rfl) (kD ?_)))))
  refine OK.ret (Ret.r2 (.tmp rfl rfl (.c (.own rfl rfl (by first|rfl|(simp;done)|(simp;omega))) rfl) rfl) (zo rfl rfl) ?_)
  rw[hge]
  all_goals rfl
end Go.Proofs.YtpbalelbenmmbaaGreatDoor
