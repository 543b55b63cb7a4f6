import Derived.Test.YtpbalelbenmmbaaGreatDoorHz
import Derived.Test.YtpbalelbenmmbaaGreatDoorGs
import Derived.Test.YtpbalelbenmmbaaGreatDoorWa
namespace Go.Proofs.YtpbalelbenmmbaaGreatDoor
open Go.Ab
def allGo{α:Type}(g:Nat→α→Bool):Nat→List α→Bool
 |_,[]=>true
 |i,x::l=>g i x&&allGo g (i+1) l
theorem allGo_drop{α:Type}(g:Nat→α→Bool){l:List α}{i:Nat}(h:i<l.length):allGo g i (l.drop i)=(g i l[i]&&allGo g (i+1) (l.drop (i+1))):=by
 rw[List.drop_eq_getElem_cons h,allGo]
def nameC(i:Nat)(c:UInt8):Bool:=
 decide (97≤(c.toNat:Int)∧(c.toNat:Int)≤122)||decide (65≤(c.toNat:Int)∧(c.toNat:Int)≤90)||(decide ((i:Int)≠0)&&(decide ((c.toNat:Int)=45)||decide (48≤(c.toNat:Int)∧(c.toNat:Int)≤57)))
def nameOk(s:List UInt8):Bool:=allGo nameC 0 s&&decide (1≤(s.length:Int)∧(s.length:Int)≤12)
theorem u8_i64(b:UInt8): -9223372036854775808≤(b.toNat:Int)∧(b.toNat:Int)≤9223372036854775807:=by
 have:=UInt8.toNat_lt b
 omega
theorem nameT{s:List UInt8}{i:Nat}(h:i<s.length)(hg:allGo nameC 0 s=allGo nameC i (s.drop i))(hc:nameC i s[i]=true):allGo nameC 0 s=allGo nameC (i+1) (s.drop (i+1)):=by
 rw[hg,allGo_drop _ h,hc,Bool.true_and]
theorem nameF{s:List UInt8}{i:Nat}(h:i<s.length)(hg:allGo nameC 0 s=allGo nameC i (s.drop i))(hc:nameC i s[i]=false):X.bool false=X.bool (nameOk s):=by
 rw[nameOk,hg,allGo_drop _ h,hc,Bool.false_and,Bool.false_and]
def hasText(l:List (List UInt8))(s:List UInt8):Bool:=l.any fun x=>decide (s=x)
def chanErr(l:List (List UInt8))(i:Nat)(s:List UInt8):Int:=if nameOk s=false then 4 else if hasText (l.take i) s=true then 5 else 0
def planChk(p:Plan):Int×Int:=
 if p.channels.length=0 then(0,10)else if 4<p.channels.length then(0,8)else
 if(eachGo (chanErr p.channels) 0 p.channels).2≠0 then eachGo (chanErr p.channels) 0 p.channels else(0,if 1≤p.ticks∧p.ticks≤12 then 0 else 2)
def isVal(n:Int):Bool:=decide (-1000000≤n∧n≤1000000)
def valuesErr(p:Plan)(l:List Int):Int:=if l.length≠p.channels.length then 10 else if l.all isVal=true then 0 else 2
def rowErr(p:Plan)(r:Row):Int:=if r.known=true then valuesErr p r.values else if r.values.length=0 then 0 else 3
def recChk(p:Plan)(r:Record):Int×Int:=if(r.rows.length:Int)≠p.ticks then(0,10)else eachGo (fun _ x=>rowErr p x) 0 r.rows
theorem any_drop{α:Type}(g:α→Bool){l:List α}{i:Nat}(h:i<l.length):(l.drop i).any g=(g l[i]||(l.drop (i+1)).any g):=by
 rw[List.drop_eq_getElem_cons h,List.any_cons]
theorem mon_isName{s:List UInt8}:Ct Tryz.prog 167 [.str s] (.bool (nameOk s)):=by
 refine Ct.intro (rs:=[.tmp 2]) Tryz.func167 rfl Tryz.ntmps167 Tryz.results167 rfl rfl rfl fun w h=>?_
 refine OK.strLen (t:=0) (z:=s) rfl rfl fun hlen=>?_
 unfold maxLen at hlen
 refine kr (kc (zb rfl) (kD (kO (kr ?_))))
 refine kc (zm rfl) (RK.c (S.bytes Tryz.underlying9 Tryz.underlying230 Tryz.underlying5 .none rfl (zt rfl)) (kc (zk si230 rfl) (kc (S.move .none rfl (.cint rfl)) (kD (OK.block (OK.loop (G:=Nat) [] (fun i=>[(0,.str s),(7,.sl (s.map fun b=>[.int .u8 b.toNat])),(8,.int .i64 s.length),(9,.int .i64 i)]) (fun i=>i≤s.length∧allGo nameC 0 s=allGo nameC i (s.drop i)) (fun i=>s.length - i) 0 ⟨Nat.zero_le _,rfl⟩ ⟨rfl,rfl,rfl,rfl,trivial⟩ (fun _=>rfl) ?_))))))
 rintro i ⟨hi,hg⟩
 refine kr (kc (S.lss .none rfl (zt rfl) (zt rfl)) (kD (kO (kB rfl (fun c10=>?_) (fun c10=>?_)))))
 ·
  refine OK.skip (Ab.D.code (kO (OK.block (kr (kc (zm rfl) (kc (S.indexM si230 .none rfl (zt rfl) (zt rfl) rfl (by omega) rfl) (kc (zV ti5 rfl rfl) (kc (za rfl) (kc (za rfl) (kq (kc (zm rfl) ?_)))))))))))
  refine kc (S.conv .none rfl (zt rfl) Tryz.underlying5 Tryz.underlying3 (IntWalk.i64_in _ (u8_i64 _)) (IntWalk.i64_in _ (u8_i64 _))) (kc (S.call (mon_within) Tryz.call168 .none rfl (zc rfl (.cons (.cint rfl) (.cons (.cint rfl) .nil))) rfl) (kc (zm rfl) (RK.splitD (t:=17) rfl (fun g17=>?_) (fun g17=>?_))))
  ·
   refine kc (zQ rfl rfl) (kc (zQ rfl rfl) (kc (zQ rfl rfl) (kc (S.pickT .none rfl (zt rfl) .cbool rfl) (kc (za rfl) (kq (kc (zm rfl) (kc (S.not .none rfl (zt rfl)) (kc (zm rfl) (kc (zQ rfl rfl) (kc (zQ rfl rfl) (kc (zQ rfl rfl) ?_)))))))))))
   refine kc (zu rfl) (kc (zu rfl) (kc (zu rfl) (kc (zu rfl) (kc (zu rfl) (kc (zu rfl) (kc (zu rfl) (kc (zu rfl) (kc (zQ rfl rfl) (kc (S.pickF .none rfl (zt rfl) .cbool rfl) (kD (OK.condF rfl rfl rfl ?_)))))))))))
   refine OK.skip (Ab.D.blk (Ab.D.code (OK.reg ?_)))
   refine kc (zp rfl rfl (by omega)) (kc (zm rfl) (RK.nil (Ab.D.lp ⟨i+1,⟨by omega,?_⟩,(by omega),rfl,rfl,rfl,rfl,trivial⟩)))
   exact nameT (by omega) hg (by simp only[nameC,Bool.or_eq_true,Bool.and_eq_true,decide_eq_true_iff];omega)
  ·
   refine kc (S.move (zg rfl rfl) rfl (zt rfl)) (kc (S.conv (zg rfl rfl) rfl (zt rfl) Tryz.underlying5 Tryz.underlying3 (IntWalk.i64_in _ (u8_i64 _)) (IntWalk.i64_in _ (u8_i64 _))) (kc (S.call (mon_within) Tryz.call168 (zg rfl rfl) rfl (zc rfl (.cons (.cint rfl) (.cons (.cint rfl) .nil))) rfl) (kc (S.pickF .none rfl (zt rfl) (zt rfl) rfl) (kc (za rfl) (kq (kc (zm rfl) (kc (S.notD .none rfl (zt rfl)) (kc (zm rfl) (RK.splitD (t:=24) rfl (fun g24=>?_) (fun g24=>?_))))))))))
   ·
    refine kc (S.move (zg rfl rfl) rfl (zt rfl)) (kc (S.eql (zg rfl rfl) rfl (zt rfl) (.cint rfl)) (kc (S.move (zg rfl rfl) rfl (zt rfl)) (RK.splitD (t:=27) rfl (fun g27=>?_) (fun g27=>?_))))
    ·
     refine kc (zQ rfl rfl) (kc (zQ rfl rfl) (kc (zQ rfl rfl) (kc (zu rfl) (kc (zu rfl) (kc (zu rfl) (kc (zu rfl) (kc (zQ rfl rfl) (kc (S.pickT (zg rfl rfl) rfl (zt rfl) .cbool rfl) (kc (S.pickT .none rfl (zt rfl) (zt rfl) rfl) (kD (OK.condT rfl rfl rfl ?_)))))))))))
     refine kr (kc (zb rfl) (kD (OK.ret (Ret.r1 (zo rfl rfl) ?_))))
     exact nameF (by omega) hg (by simp only[nameC,Bool.or_eq_false_iff,Bool.and_eq_false_iff,decide_eq_false_iff_not];omega)
    ·
     refine kc (S.move (zg rfl rfl) rfl (zt rfl)) (kc (S.neq (zg rfl rfl) rfl (zt rfl) (.cint rfl)) (kc (S.move (zg rfl rfl) rfl (zt rfl)) (RK.splitD (t:=30) rfl (fun g30=>?_) (fun g30=>?_))))
     ·
      refine kc (S.move (zg rfl rfl) rfl (zt rfl)) (kc (S.conv (zg rfl rfl) rfl (zt rfl) Tryz.underlying5 Tryz.underlying3 (IntWalk.i64_in _ (u8_i64 _)) (IntWalk.i64_in _ (u8_i64 _))) (kc (S.call (mon_within) Tryz.call168 (zg rfl rfl) rfl (zc rfl (.cons (.cint rfl) (.cons (.cint rfl) .nil))) rfl) (kc (S.notD (zg rfl rfl) rfl (zt rfl)) (kc (S.pickT (zg rfl rfl) rfl (zt rfl) (zt rfl) rfl) (kc (S.pickF (zg rfl rfl) rfl (zt rfl) (zt rfl) rfl) (kc (S.pickT .none rfl (zt rfl) (zt rfl) rfl) (kD (kB rfl (fun c37=>?_) (fun c37=>?_)))))))))
      ·
       refine kr (kc (zb rfl) (kD (OK.ret (Ret.r1 (zo rfl rfl) ?_))))
       exact nameF (by omega) hg (by simp only[nameC,Bool.or_eq_false_iff,Bool.and_eq_false_iff,decide_eq_false_iff_not];omega)
      ·
       refine OK.skip (Ab.D.blk (Ab.D.code (OK.reg ?_)))
       refine kc (zp rfl rfl (by omega)) (kc (zm rfl) (RK.nil (Ab.D.lp ⟨i+1,⟨by omega,?_⟩,(by omega),rfl,rfl,rfl,rfl,trivial⟩)))
       exact nameT (by omega) hg (by simp only[nameC,Bool.or_eq_true,Bool.and_eq_true,decide_eq_true_iff];omega)
     ·
      refine kc (zQ rfl rfl) (kc (zQ rfl rfl) (kc (zQ rfl rfl) (kc (zQ rfl rfl) (kc (S.pickF (zg rfl rfl) rfl (zt rfl) .cbool rfl) (kc (S.pickF (zg rfl rfl) rfl (zt rfl) (zt rfl) rfl) (kc (S.pickT .none rfl (zt rfl) (zt rfl) rfl) (kD (OK.condF rfl rfl rfl (OK.skip (Ab.D.blk (Ab.D.code (OK.reg ?_))))))))))))
      refine kc (zp rfl rfl (by omega)) (kc (zm rfl) (RK.nil (Ab.D.lp ⟨i+1,⟨by omega,?_⟩,(by omega),rfl,rfl,rfl,rfl,trivial⟩)))
      exact nameT (by omega) hg (by simp only[nameC,Bool.or_eq_true,Bool.and_eq_true,decide_eq_true_iff];omega)
   ·
    refine kc (zQ rfl rfl) (kc (zQ rfl rfl) (kc (zQ rfl rfl) (kc (zu rfl) (kc (zu rfl) (kc (zu rfl) (kc (zu rfl) (kc (zu rfl) (kc (zu rfl) (kc (zu rfl) (kc (zu rfl) (kc (zQ rfl rfl) ?_)))))))))))
    refine kc (S.pickF .none rfl (zt rfl) .cbool rfl) (kD (OK.condF rfl rfl rfl (OK.skip (Ab.D.blk (Ab.D.code (OK.reg ?_))))))
    refine kc (zp rfl rfl (by omega)) (kc (zm rfl) (RK.nil (Ab.D.lp ⟨i+1,⟨by omega,?_⟩,(by omega),rfl,rfl,rfl,rfl,trivial⟩)))
    exact nameT (by omega) hg (by simp only[nameC,Bool.or_eq_true,Bool.and_eq_true,decide_eq_true_iff];omega)
 ·
  refine OK.exit rfl (kp (kc (zm rfl) (kc (S.slen Tryz.underlying9 .none rfl (zt rfl)) (kc (S.call (mon_within) Tryz.call168 .none rfl (zc rfl (.cons (.cint rfl) (.cons (.cint rfl) .nil))) rfl) (kc (za rfl) (kD (OK.ret (Ret.r1 (zo rfl rfl) ?_))))))))
  have:i=s.length:=by omega
  subst this
  rw[List.drop_length,allGo]at hg
  rw[nameOk,hg,Bool.true_and]
theorem base_IsName{s:List UInt8}:Ct Tryz.prog 43 [.str s] (.bool (nameOk s)):=by
 refine Ct.intro (rs:=[.tmp 2]) Tryz.func43 rfl Tryz.ntmps43 Tryz.results43 rfl rfl rfl fun w h=>?_
 refine OK.strLen (t:=0) (z:=s) rfl rfl fun hlen=>?_
 unfold maxLen at hlen
 refine kr (kc (zb rfl) (kD (kO (kr ?_))))
 refine kc (zm rfl) (kc (S.slen Tryz.underlying9 .none rfl (zt rfl)) (kc (S.lss .none rfl (zt rfl) (.cint rfl)) (kc (zm rfl) (RK.splitD (t:=9) rfl (fun g9=>?_) (fun g9=>?_)))))
 ·
  refine kc (zQ rfl rfl) (kc (zQ rfl rfl) (kc (zQ rfl rfl) (kc (S.pickT .none rfl (zt rfl) .cbool rfl) (kD (OK.condT rfl rfl rfl (kr (kc (zb rfl) (kD (OK.ret (Ret.r1 (zo rfl rfl) ?_))))))))))
  first|(exact nameF (by omega) hg (by simp only[nameC,Bool.or_eq_false_iff,Bool.and_eq_false_iff,decide_eq_false_iff_not];omega))|(refine ret_b ?_;rw[nameOk];rw[decide_eq_false (by omega),Bool.and_false])
 ·
  refine kc (S.move (zg rfl rfl) rfl (zt rfl)) (kc (S.slen Tryz.underlying9 (zg rfl rfl) rfl (zt rfl)) (kc (S.gtr (zg rfl rfl) rfl (zt rfl) (.cint rfl)) (kc (S.pickF .none rfl (zt rfl) (zt rfl) rfl) (kD (kB rfl (fun c13=>?_) (fun c13=>?_))))))
  ·
   refine kr (kc (zb rfl) (kD (OK.ret (Ret.r1 (zo rfl rfl) ?_))))
   first|(exact nameF (by omega) hg (by simp only[nameC,Bool.or_eq_false_iff,Bool.and_eq_false_iff,decide_eq_false_iff_not];omega))|(refine ret_b ?_;rw[nameOk];rw[decide_eq_false (by omega),Bool.and_false])
  ·
   refine OK.skip (Ab.D.code (kO (kr ?_)))
   refine kc (zi rfl rfl) (kD (OK.block (OK.loop (G:=Nat) [] (fun i=>[(0,.str s),(3,.int .i64 i)]) (fun i=>i≤s.length∧allGo nameC 0 s=allGo nameC i (s.drop i)) (fun i=>s.length - i) 0 ⟨Nat.zero_le _,rfl⟩ ⟨rfl,rfl,trivial⟩ (fun _=>rfl) ?_)))
   rintro i ⟨hi,hg⟩
   refine OK.seq (kr ?_)
   refine kc (zm rfl) (kc (zm rfl) (kc (S.slen Tryz.underlying9 .none rfl (zt rfl)) (kc (S.lss .none rfl (zt rfl) (zt rfl)) (kD (kB rfl (fun c17=>?_) (fun c17=>?_))))))
   ·
    have hil:i<s.length:=by omega
    refine OK.skip (Ab.D.code (kO (OK.block (kr (kc (zm rfl) (kc (zm rfl) (kc (S.stridx str9 .none rfl (zt rfl) (zt rfl) rfl (by omega)) (kc (za rfl) (kD (OK.join (G:=Bool) [] (fun b=>[(0,.str s),(3,.int .i64 i),(4,.int .u8 (s[i].toNat:Int)),(5,.bool b)]) (fun b=>(b=true)=((97≤(s[i].toNat:Int)∧(s[i].toNat:Int)≤122)∨(65≤(s[i].toNat:Int)∧(s[i].toNat:Int)≤90))) (fun _=>rfl) ?_ ?_))))))))))
    ·
     refine OK.reg (kc (zm rfl) (kc (S.geq .none rfl (zt rfl) (.cint rfl)) (kc (zm rfl) (RK.splitD (t:=25) rfl (fun g25=>?_) (fun g25=>?_)))))
     ·
      refine kc (S.move (zg rfl rfl) rfl (zt rfl)) (kc (S.leq (zg rfl rfl) rfl (zt rfl) (.cint rfl)) (kc (S.pickT .none rfl (zt rfl) (zt rfl) rfl) (kc (zm rfl) (RK.splitD (t:=29) rfl (fun g29=>?_) (fun g29=>?_)))))
      ·
       refine kc (zQ rfl rfl) (kc (zQ rfl rfl) (kc (zQ rfl rfl) (kc (zu rfl) (kc (zu rfl) (kc (zQ rfl rfl) (kc (S.pickT .none rfl (zt rfl) .cbool rfl) (kc (za rfl) (RK.nil (Ab.D.lp ⟨_,?_,rfl,rfl,rfl,rfl,trivial⟩)))))))))
       first|(refine propext ⟨fun _=>?_,fun _=>rfl⟩;omega;done)|(rw[decide_eq_true_eq];exact propext ⟨fun h=>by omega,fun h=>by omega⟩)|(refine propext ⟨fun h=>(by cases h),fun h=>?_⟩;exfalso;omega;done)
      ·
       refine kc (S.move (zg rfl rfl) rfl (zt rfl)) (kc (S.geq (zg rfl rfl) rfl (zt rfl) (.cint rfl)) (kc (S.move (zg rfl rfl) rfl (zt rfl)) (RK.splitD (t:=32) rfl (fun g32=>?_) (fun g32=>?_))))
       ·
        refine kc (S.move (zg rfl rfl) rfl (zt rfl)) (kc (S.leq (zg rfl rfl) rfl (zt rfl) (.cint rfl)) (kc (S.pickT (zg rfl rfl) rfl (zt rfl) (zt rfl) rfl) (kc (S.pickF .none rfl (zt rfl) (zt rfl) rfl) (kc (za rfl) (RK.nil (Ab.D.lp ⟨_,?_,rfl,rfl,rfl,rfl,trivial⟩))))))
        first|(refine propext ⟨fun _=>?_,fun _=>rfl⟩;omega;done)|(rw[decide_eq_true_eq];exact propext ⟨fun h=>by omega,fun h=>by omega⟩)|(refine propext ⟨fun h=>(by cases h),fun h=>?_⟩;exfalso;omega;done)
       ·
        refine kc (zQ rfl rfl) (kc (zQ rfl rfl) (kc (S.pickF (zg rfl rfl) rfl (zt rfl) .cbool rfl) (kc (S.pickF .none rfl (zt rfl) (zt rfl) rfl) (kc (za rfl) (RK.nil (Ab.D.lp ⟨_,?_,rfl,rfl,rfl,rfl,trivial⟩))))))
        first|(refine propext ⟨fun _=>?_,fun _=>rfl⟩;omega;done)|(rw[decide_eq_true_eq];exact propext ⟨fun h=>by omega,fun h=>by omega⟩)|(refine propext ⟨fun h=>(by cases h),fun h=>?_⟩;exfalso;omega;done)
     ·
      refine kc (zQ rfl rfl) (kc (zQ rfl rfl) (kc (S.pickF .none rfl (zt rfl) .cbool rfl) (kc (zm rfl) (kc (S.move (zg rfl rfl) rfl (zt rfl)) (kc (S.geq (zg rfl rfl) rfl (zt rfl) (.cint rfl)) (kc (S.move (zg rfl rfl) rfl (zt rfl)) (RK.splitD (t:=32) rfl (fun g32=>?_) (fun g32=>?_))))))))
      ·
       refine kc (S.move (zg rfl rfl) rfl (zt rfl)) (kc (S.leq (zg rfl rfl) rfl (zt rfl) (.cint rfl)) (kc (S.pickT (zg rfl rfl) rfl (zt rfl) (zt rfl) rfl) (kc (S.pickF .none rfl (zt rfl) (zt rfl) rfl) (kc (za rfl) (RK.nil (Ab.D.lp ⟨_,?_,rfl,rfl,rfl,rfl,trivial⟩))))))
       first|(refine propext ⟨fun _=>?_,fun _=>rfl⟩;omega;done)|(rw[decide_eq_true_eq];exact propext ⟨fun h=>by omega,fun h=>by omega⟩)|(refine propext ⟨fun h=>(by cases h),fun h=>?_⟩;exfalso;omega;done)
      ·
       refine kc (zQ rfl rfl) (kc (zQ rfl rfl) (kc (S.pickF (zg rfl rfl) rfl (zt rfl) .cbool rfl) (kc (S.pickF .none rfl (zt rfl) (zt rfl) rfl) (kc (za rfl) (RK.nil (Ab.D.lp ⟨_,?_,rfl,rfl,rfl,rfl,trivial⟩))))))
       first|(refine propext ⟨fun _=>?_,fun _=>rfl⟩;omega;done)|(rw[decide_eq_true_eq];exact propext ⟨fun h=>by omega,fun h=>by omega⟩)|(refine propext ⟨fun h=>(by cases h),fun h=>?_⟩;exfalso;omega;done)
    ·
     rintro b hb
     refine kr (kc (zm rfl) (kc (S.not .none rfl (zt rfl)) (kc (zm rfl) (RK.split (t:=39) rfl (fun g39=>?_) (fun g39=>?_)))))
     ·
      have hnb:¬((97≤(s[i].toNat:Int)∧(s[i].toNat:Int)≤122)∨(65≤(s[i].toNat:Int)∧(s[i].toNat:Int)≤90)):=by
       rw[←hb];simpa using g39
      refine kc (S.move (zg rfl rfl) rfl (zt rfl)) (kc (S.eql (zg rfl rfl) rfl (zt rfl) (.cint rfl)) (kc (S.move (zg rfl rfl) rfl (zt rfl)) (RK.splitD (t:=42) rfl (fun g42=>?_) (fun g42=>?_))))
      ·
       refine kc (zQ rfl rfl) (kc (zQ rfl rfl) (kc (zQ rfl rfl) (kc (zu rfl) (kc (zu rfl) (kc (zu rfl) (kc (zu rfl) (kc (zu rfl) (kc (zu rfl) (kc (zQ rfl rfl) (kc (S.pickT (zg rfl rfl) rfl (zt rfl) .cbool rfl) (kc (S.pickT .none rfl (zt rfl) (zt rfl) rfl) ?_)))))))))))
       refine kD (OK.condT rfl rfl rfl (kr (kc (zb rfl) (kD (OK.ret (Ret.r1 (zo rfl rfl) ?_))))))
       first|(exact nameF (by omega) hg (by simp only[nameC,Bool.or_eq_false_iff,Bool.and_eq_false_iff,decide_eq_false_iff_not];omega))|(refine ret_b ?_;rw[nameOk];rw[decide_eq_false (by omega),Bool.and_false])
      ·
       refine kc (S.move (zg rfl rfl) rfl (zt rfl)) (kc (S.neq (zg rfl rfl) rfl (zt rfl) (.cint rfl)) (kc (S.move (zg rfl rfl) rfl (zt rfl)) (RK.splitD (t:=45) rfl (fun g45=>?_) (fun g45=>?_))))
       ·
        refine kc (S.move (zg rfl rfl) rfl (zt rfl)) (kc (S.lss (zg rfl rfl) rfl (zt rfl) (.cint rfl)) (kc (S.move (zg rfl rfl) rfl (zt rfl)) (RK.splitD (t:=48) rfl (fun g48=>?_) (fun g48=>?_))))
        ·
         refine kc (zQ rfl rfl) (kc (zQ rfl rfl) (kc (S.pickT (zg rfl rfl) rfl (zt rfl) .cbool rfl) (kc (S.pickT (zg rfl rfl) rfl (zt rfl) (zt rfl) rfl) (kc (S.pickF (zg rfl rfl) rfl (zt rfl) (zt rfl) rfl) (kc (S.pickT .none rfl (zt rfl) (zt rfl) rfl) (kD (OK.condT rfl rfl rfl (kr (kc (zb rfl) (kD (OK.ret (Ret.r1 (zo rfl rfl) ?_))))))))))))
         first|(exact nameF (by omega) hg (by simp only[nameC,Bool.or_eq_false_iff,Bool.and_eq_false_iff,decide_eq_false_iff_not];omega))|(refine ret_b ?_;rw[nameOk];rw[decide_eq_false (by omega),Bool.and_false])
        ·
         refine kc (S.move (zg rfl rfl) rfl (zt rfl)) (kc (S.gtr (zg rfl rfl) rfl (zt rfl) (.cint rfl)) (kc (S.pickF (zg rfl rfl) rfl (zt rfl) (zt rfl) rfl) (kc (S.pickT (zg rfl rfl) rfl (zt rfl) (zt rfl) rfl) (kc (S.pickF (zg rfl rfl) rfl (zt rfl) (zt rfl) rfl) (kc (S.pickT .none rfl (zt rfl) (zt rfl) rfl) (kD (kB rfl (fun c54=>?_) (fun c54=>?_))))))))
         ·
          refine kr (kc (zb rfl) (kD (OK.ret (Ret.r1 (zo rfl rfl) ?_))))
          first|(exact nameF (by omega) hg (by simp only[nameC,Bool.or_eq_false_iff,Bool.and_eq_false_iff,decide_eq_false_iff_not];omega))|(refine ret_b ?_;rw[nameOk];rw[decide_eq_false (by omega),Bool.and_false])
         ·
          refine OK.skip (Ab.D.blk (Ab.D.code (OK.reg ?_)))
          refine kc (zm rfl) (kc (zp rfl rfl (by omega)) (kc (za rfl) (RK.nil (Ab.D.lp ⟨i+1,⟨by omega,?_⟩,(by omega),rfl,rfl,trivial⟩))))
          exact nameT (by omega) hg (by simp only[nameC,Bool.or_eq_true,Bool.and_eq_true,decide_eq_true_iff];omega)
       ·
        refine kc (zQ rfl rfl) (kc (zQ rfl rfl) (kc (zQ rfl rfl) (kc (zu rfl) (kc (zu rfl) (kc (zQ rfl rfl) (kc (S.pickF (zg rfl rfl) rfl (zt rfl) .cbool rfl) (kc (S.pickF (zg rfl rfl) rfl (zt rfl) (zt rfl) rfl) (kc (S.pickT .none rfl (zt rfl) (zt rfl) rfl) (kD (OK.condF rfl rfl rfl (OK.skip ?_)))))))))))
        refine Ab.D.blk (Ab.D.code (OK.reg ?_))
        refine kc (zm rfl) (kc (zp rfl rfl (by omega)) (kc (za rfl) (RK.nil (Ab.D.lp ⟨i+1,⟨by omega,?_⟩,(by omega),rfl,rfl,trivial⟩))))
        exact nameT (by omega) hg (by simp only[nameC,Bool.or_eq_true,Bool.and_eq_true,decide_eq_true_iff];omega)
     ·
      have hnb:(97≤(s[i].toNat:Int)∧(s[i].toNat:Int)≤122)∨(65≤(s[i].toNat:Int)∧(s[i].toNat:Int)≤90):=by
       rw[←hb];simpa using g39
      refine kc (zQ rfl rfl) (kc (zQ rfl rfl) (kc (zQ rfl rfl) (kc (zu rfl) (kc (zu rfl) (kc (zu rfl) (kc (zu rfl) (kc (zu rfl) (kc (zu rfl) (kc (zu rfl) (kc (zu rfl) (kc (zu rfl) ?_)))))))))))
      refine kc (zu rfl) (kc (zQ rfl rfl) (kc (S.pickF .none rfl (zt rfl) .cbool rfl) (kD (OK.condF rfl rfl rfl (OK.skip (Ab.D.blk (Ab.D.code (OK.reg ?_))))))))
      refine kc (zm rfl) (kc (zp rfl rfl (by omega)) (kc (za rfl) (RK.nil (Ab.D.lp ⟨i+1,⟨by omega,?_⟩,(by omega),rfl,rfl,trivial⟩))))
      exact nameT (by omega) hg (by simp only[nameC,Bool.or_eq_true,Bool.and_eq_true,decide_eq_true_iff];omega)
   ·
    refine OK.exit rfl (kp (kc (zb rfl) (kD (OK.ret (Ret.r1 (zo rfl rfl) ?_)))))
    have:i=s.length:=by omega
    subst this
    rw[List.drop_length,allGo]at hg
    refine ret_b ?_
    rw[nameOk,hg,Bool.true_and,decide_eq_true (by omega)]
theorem base_HasText{l:List (List UInt8)}{s:List UInt8}:Ct Tryz.prog 70 [texts l,.str s] (.bool (hasText l s)):=by
 refine Ct.intro (rs:=[.tmp 4]) Tryz.func70 rfl Tryz.ntmps70 Tryz.results70 rfl rfl rfl fun w h=>?_
 refine OK.slLen (rows:=l.map (fun s=>[.str s])) (t:=0) rfl rfl fun hlen=>?_
 rw[List.length_map]at hlen
 unfold maxLen at hlen
 refine kr (kc (zb rfl) (kD (kO (kr ?_))))
 refine kc (zi rfl rfl) (kD (OK.block (OK.loop (G:=Nat) [] (fun i=>[(0,texts l),(1,.str s),(5,.int .i64 i)]) (fun i=>i≤l.length∧hasText l s=hasText (l.drop i) s) (fun i=>l.length - i) 0 ⟨Nat.zero_le _,rfl⟩ ⟨rfl,rfl,rfl,trivial⟩ (fun _=>rfl) ?_)))
 rintro i ⟨hi,hg⟩
 refine OK.seq (kr ?_)
 refine kc (zm rfl) (kc (zm rfl) (kc (zk si103 rfl) (kc (S.lss .none rfl (zt rfl) (zt rfl)) (kD (kB rfl (fun c9=>?_) (fun c9=>?_))))))
 ·
  refine OK.skip (Ab.D.code (kO (OK.block (kr (kc (zm rfl) (kc (zm rfl) (kc (S.indexM si103 .none rfl (zt rfl) (zt rfl) rfl (by omega) rfl) (kc (zV ti9 rfl rfl) (kc (zm rfl) (kc (S.seql .none rfl (zt rfl) (zt rfl)) (kD ?_)))))))))))
  refine kB rfl (fun c17=>?_) (fun c17=>?_)
  ·
   refine kr (kc (zb rfl) (kD (OK.ret (Ret.r1 (zo rfl rfl) ?_))))
   refine ret_b ?_
   rw[hg,hasText,any_drop _ (by omega),decide_eq_true c17.symm,Bool.true_or]
  ·
   refine OK.skip (Ab.D.blk (Ab.D.code (OK.reg ?_)))
   refine kc (zm rfl) (kc (zp rfl rfl (by omega)) (kc (za rfl) (RK.nil (Ab.D.lp ⟨i+1,⟨by omega,?_⟩,(by omega),rfl,rfl,rfl,trivial⟩))))
   rw[hg,hasText,any_drop _ (by omega),decide_eq_false (fun e=>c17 e.symm),Bool.false_or]
   rfl
 ·
  refine OK.exit rfl (kp (kc (zb rfl) (kD (OK.ret (Ret.r1 (zo rfl rfl) ?_)))))
  have:i=l.length:=by omega
  subst this
  rw[hg,List.drop_length]
  rfl
theorem mon_chan{p:Plan}{i:Nat}{s:List UInt8}(hi:i≤p.channels.length):Ct Tryz.prog 166 [.int .i64 i,.str s,.eptr p.cs] (.int .i64 (chanErr p.channels i s)):=by
 refine Ct.intro (rs:=[.tmp 5]) Tryz.func166 rfl Tryz.ntmps166 Tryz.results166 rfl rfl rfl fun w h=>?_
 refine kr (kc (zi rfl rfl) (kD (kO (OK.regionDraw follows (.c (zm rfl) (.c (S.call (mon_isName) Tryz.call167 .none rfl (zc rfl .nil) rfl) (.c (S.call (monitor_unless) Tryz.call164 .none rfl (zc rfl (.cons (.cint rfl) .nil)) rfl) (.c (S.field fi105_0 .none rfl (zt rfl) rfl) (.c (zV ti103 rfl rfl) (.c (zm rfl) (.c (S.slice (hi:=i) (l':=p.channels.take i) si103 (fun _=>rfl) .none rfl (zt rfl) (.inl ⟨rfl,rfl,rfl⟩) (.inr ⟨_,_,rfl,(zt rfl),rfl⟩) (Nat.zero_le _) hi rfl) (.c (zm rfl) (.c (S.call (contains_str) Tryz.call105 .none rfl (zc rfl (zc rfl .nil)) rfl) (.c (S.not .none rfl (zt rfl)) (.c (S.call (monitor_unless) Tryz.call164 .none rfl (zc rfl (.cons (.cint rfl) .nil)) rfl) (.c (S.mkSlice (k:=17) (rows:=[[_],[_]]) ai184 .none rfl (zc rfl (zc rfl .nil)) rfl rfl rfl rfl rfl rfl rfl) (.c (S.callL (monitor_first (l:=[_,_])) Tryz.call163 .none rfl (zc rfl .nil) (.cons (.p (.own rfl rfl) rfl) .nil) rfl) (.c (za rfl) .nil)))))))))))))) (by kernel_rfl) ?_))))
 refine Ab.D.code (OK.ret (Ret.r1 (zo rfl rfl) ?_))
 refine ret_i ?_
 unfold chanErr hasText
 cases nameOk s<;>cases ((p.channels.take i).any fun x=>decide (s=x))<;>rfl
end Go.Proofs.YtpbalelbenmmbaaGreatDoor
