import Derived.Test.YtpbalelbenmmbaaGreatDoorHz
import Derived.Test.YtpbalelbenmmbaaGreatDoorGh
import Derived.Test.YtpbalelbenmmbaaGreatDoorHj
import Derived.Test.YtpbalelbenmmbaaGreatDoorRa
import Derived.Test.YtpbalelbenmmbaaGreatDoorTy
import Derived.Test.YtpbalelbenmmbaaGreatDoorWc
namespace Go.Proofs.YtpbalelbenmmbaaGreatDoor
open Go.Ab
def ixGo{α:Type}(g:α→Bool):Nat→List α→Option Nat
 |_,[]=>none
 |i,x::l=>if g x then some i else ixGo g (i+1) l
abbrev ix{α:Type}(g:α→Bool)(l:List α):Option Nat:=ixGo g 0 l
theorem ixGo_drop{α:Type}(g:α→Bool){l:List α}{i:Nat}(h:i<l.length):ixGo g i (l.drop i)=if g l[i]then some i else ixGo g (i+1) (l.drop (i+1)):=by
 rw[List.drop_eq_getElem_cons h,ixGo]
theorem ixGo_some{α:Type}(g:α→Bool):∀(l:List α)(i j:Nat),ixGo g i l=some j→i≤j∧∃x,l[j - i]?=some x∧g x=true
 |[],_,_,h=>by cases h
 |x::l,i,j,h=>by
  rw[ixGo]at h
  split at h
  ·cases h;exact⟨Nat.le_refl _,x,by simp,‹_›⟩
  ·obtain⟨h1,y,h2,h3⟩:=ixGo_some g l (i+1) j h
   refine⟨by omega,y,?_,h3⟩
   rw[show j - i=(j - (i+1))+1 by omega]
   simpa using h2
theorem ix_some{α:Type}{g:α→Bool}{l:List α}{j:Nat}(h:ix g l=some j):∃hj:j<l.length,g l[j]=true:=by
 obtain⟨_,x,h1,h2⟩:=ixGo_some g l 0 j h
 rw[Nat.sub_zero]at h1
 obtain⟨hj,rfl⟩:=List.getElem?_eq_some_iff.1 h1
 exact⟨hj,h2⟩
def HA.cb(A:HA)(i:Nat):Nat:=(A.coils[i]?.map CoilA.b).getD 0
def HA.vb(A:HA)(i:Nat):Nat:=(A.vers[i]?.map VerA.b).getD 0
theorem HA.pb_at{A:HA}{i:Nat}(h:i<A.parts.length):A.pb i=A.parts[i].b:=by rw[HA.pb,List.getElem?_eq_getElem h];rfl
theorem HA.cb_at{A:HA}{i:Nat}(h:i<A.coils.length):A.cb i=A.coils[i].b:=by rw[HA.cb,List.getElem?_eq_getElem h];rfl
theorem HA.vb_at{A:HA}{i:Nat}(h:i<A.vers.length):A.vb i=A.vers[i].b:=by rw[HA.vb,List.getElem?_eq_getElem h];rfl
def optP(f:Nat→Nat)(o:Option Nat):Value:=.pointer (o.map fun j=>⟨f j,0,none⟩)
theorem ret_P{f:Nat→Nat}{b i:Nat}{o:Option Nat}(h:o=some i)(hb:f i=b):X.raw (pV b)=X.raw (optP f o):=by subst h;subst hb;rfl
theorem ret_N{f:Nat→Nat}{o:Option Nat}(h:o=none):X.raw (.pointer none)=X.raw (optP f o):=by subst h;rfl
def isHereT(p:Part):Bool:=decide (p.place=0)||decide (p.place=1)
def mayT(p:Part):Bool:=decide (p.place=1)&&p.judged&&decide (p.verdict=0)&&!p.marked
theorem rec_within{n lo hi:Int}:Ct Tryz.prog 55 [.int .i64 n,.int .i64 lo,.int .i64 hi] (.bool (decide (lo≤n∧n≤hi))):=by
 refine Ct.intro (rs:=[.tmp 6]) Tryz.func55 rfl Tryz.ntmps55 Tryz.results55 rfl rfl rfl fun w h=>?_
 refine kr (kc (zb rfl) (kq (kc (zm rfl) (kc (zm rfl) (kc (S.leq .none rfl (zt rfl) (zt rfl)) (kc (zm rfl) (RK.splitD (t:=10) rfl (fun g10=>?_) (fun g10=>?_))))))))
 ·
  refine kc (S.move (zg rfl rfl) rfl (zt rfl)) (kc (S.move (zg rfl rfl) rfl (zt rfl)) (kc (S.leq (zg rfl rfl) rfl (zt rfl) (zt rfl)) (kc (S.pickT .none rfl (zt rfl) (zt rfl) rfl) (kc (za rfl) (kD (OK.ret (Ret.r1 (zo rfl rfl) ?_)))))))
  simp[*]
 ·
  refine kc (zQ rfl rfl) (kc (zQ rfl rfl) (kc (zQ rfl rfl) (kc (S.pickF .none rfl (zt rfl) .cbool rfl) (kc (za rfl) (kD (OK.ret (Ret.r1 (zo rfl rfl) ?_)))))))
  simp[*]
theorem record_unless{ok:Bool}{e:Int}:Ct Tryz.prog 58 [.bool ok,.int .i64 e] (.int .i64 (unlessE ok e)):=by
 refine Ct.intro (rs:=[.tmp 4]) Tryz.func58 rfl Tryz.ntmps58 Tryz.results58 rfl rfl rfl fun w h=>?_
 refine kr (kc (zi rfl rfl) (kD (kO (kr ?_))))
 refine kc (zm rfl) (kD (OK.cond rfl rfl (fun c5=>?_) (fun c5=>?_)))
 ·
  refine kr (kc (zi rfl rfl) (kD (OK.ret (Ret.r1 (zo rfl rfl) ?_))))
  simp[unlessE, *]
 ·
  refine OK.skip (kp (kc (zm rfl) (kc (za rfl) (kD (OK.ret (Ret.r1 (zo rfl rfl) ?_))))))
  simp[unlessE, *]
theorem record_first{l:List Int}:Ct Tryz.prog 57 [ints l] (.int .i64 (firstE l)):=by
 refine Ct.intro (rs:=[.tmp 2]) Tryz.func57 rfl Tryz.ntmps57 Tryz.results57 rfl rfl rfl fun w h=>?_
 refine OK.slLen (rows:=l.map fun n=>[.int .i64 n]) (t:=0) rfl rfl fun hlen=>?_
 rw[List.length_map]at hlen
 unfold maxLen at hlen
 refine kr (kc (zi rfl rfl) (kD (kO (kr ?_))))
 refine kc (zm rfl) (kc (zk si184 rfl) (kc (S.move .none rfl (.cint rfl)) (kD (OK.block (OK.loop (G:=Nat) [] (fun i=>[(5,ints l),(6,.int .i64 l.length),(7,.int .i64 i)]) (fun i=>i≤l.length∧firstE l=firstE (l.drop i)) (fun i=>l.length - i) 0 ⟨Nat.zero_le _,rfl⟩ ⟨rfl,rfl,rfl,trivial⟩ (fun _=>rfl) ?_)))))
 rintro i ⟨hi,hf⟩
 refine kr (kc (S.lss .none rfl (zt rfl) (zt rfl)) (kD (kO (kB rfl (fun c8=>?_) (fun c8=>?_)))))
 ·
  refine OK.skip (Ab.D.code (kO (OK.block (kr (kc (S.indexM si184 .none rfl (zt rfl) (zt rfl) rfl (by omega) rfl) (kc (zV ti29 rfl rfl) (kc (za rfl) (kq (kc (zm rfl) (kc (zN rfl rfl) (kD ?_)))))))))))
  refine kB rfl (fun c12=>?_) (fun c12=>?_)
  ·
   refine kr (kc (zm rfl) (kc (za rfl) (kD (OK.ret (Ret.r1 (zo rfl rfl) ?_)))))
   rw[hf,firstE_drop (by omega)]
   simp_all
  ·
   refine OK.skip (Ab.D.blk (Ab.D.code (OK.reg ?_)))
   refine kc (zp rfl rfl (by omega)) (kc (zm rfl) (RK.nil (Ab.D.lp ⟨i+1,⟨by omega,?_⟩,(by omega),rfl,rfl,rfl,trivial⟩)))
   rw[hf,firstE_drop (by omega)]
   simp_all
 ·
  refine OK.exit rfl (kp (kc (zi rfl rfl) (kD (OK.ret (Ret.r1 (zo rfl rfl) ?_)))))
  have:i=l.length:=by omega
  subst this
  rw[hf,List.drop_length]
  rfl
theorem rec_isName1{i:Nat}{c:UInt8}:Ct Tryz.prog 102 [.int .i64 i,.int .u8 (c.toNat:Int)] (.bool (!nameC i c)):=by
 refine Ct.intro (rs:=[.tmp 4]) Tryz.func102 rfl Tryz.ntmps102 Tryz.results102 rfl rfl rfl fun w h=>?_
 have hu:=u8_i64 c
 refine kr (kc (zb rfl) (kq (kc (zm rfl) (kc (S.conv .none rfl (zt rfl) Tryz.underlying5 Tryz.underlying3 (IntWalk.i64_in _ (by omega)) (IntWalk.i64_in _ (by omega))) (kc (S.call (rec_within) Tryz.call55 .none rfl (zc rfl (.cons (.cint rfl) (.cons (.cint rfl) .nil))) rfl) (kc (zm rfl) (RK.splitD (t:=9) rfl (fun g9=>?_) (fun g9=>?_))))))))
 ·
  refine kc (zQ rfl rfl) (kc (zQ rfl rfl) (kc (zQ rfl rfl) (kc (S.pickT .none rfl (zt rfl) .cbool rfl) (kc (za rfl) (kq (kc (zm rfl) (kc (S.not .none rfl (zt rfl)) (kc (zm rfl) (kc (zQ rfl rfl) (kc (zQ rfl rfl) (kc (zQ rfl rfl) ?_)))))))))))
  refine kc (zu rfl) (kc (zu rfl) (kc (zu rfl) (kc (zu rfl) (kc (zu rfl) (kc (zu rfl) (kc (zu rfl) (kc (zu rfl) (kc (zQ rfl rfl) (kc (S.pickF .none rfl (zt rfl) .cbool rfl) (kc (za rfl) (kD ?_)))))))))))
  refine OK.ret (Ret.r1 (zo rfl rfl) ?_)
  refine ret_b ?_
  cases hn:nameC i c<;>simp only[nameC,Bool.or_eq_true,Bool.and_eq_true,Bool.or_eq_false_iff,Bool.and_eq_false_iff,decide_eq_true_eq,decide_eq_false_iff_not]at hn<;>simp<;>omega
 ·
  refine kc (S.move (zg rfl rfl) rfl (zt rfl)) (kc (S.conv (zg rfl rfl) rfl (zt rfl) Tryz.underlying5 Tryz.underlying3 (IntWalk.i64_in _ (by omega)) (IntWalk.i64_in _ (by omega))) (kc (S.call (rec_within) Tryz.call55 (zg rfl rfl) rfl (zc rfl (.cons (.cint rfl) (.cons (.cint rfl) .nil))) rfl) (kc (S.pickF .none rfl (zt rfl) (zt rfl) rfl) (kc (za rfl) (kq (kc (zm rfl) (kc (S.notD .none rfl (zt rfl)) (kc (zm rfl) (RK.splitD (t:=16) rfl (fun g16=>?_) (fun g16=>?_))))))))))
  ·
   refine kc (S.move (zg rfl rfl) rfl (zt rfl)) (kc (S.eql (zg rfl rfl) rfl (zt rfl) (.cint rfl)) (kc (S.move (zg rfl rfl) rfl (zt rfl)) (RK.splitD (t:=19) rfl (fun g19=>?_) (fun g19=>?_))))
   ·
    refine kc (zQ rfl rfl) (kc (zQ rfl rfl) (kc (zQ rfl rfl) (kc (zu rfl) (kc (zu rfl) (kc (zu rfl) (kc (zu rfl) (kc (zQ rfl rfl) (kc (S.pickT (zg rfl rfl) rfl (zt rfl) .cbool rfl) (kc (S.pickT .none rfl (zt rfl) (zt rfl) rfl) (kc (za rfl) (kD ?_)))))))))))
    refine OK.ret (Ret.r1 (zo rfl rfl) ?_)
    refine ret_b ?_
    cases hn:nameC i c<;>simp only[nameC,Bool.or_eq_true,Bool.and_eq_true,Bool.or_eq_false_iff,Bool.and_eq_false_iff,decide_eq_true_eq,decide_eq_false_iff_not]at hn<;>simp<;>omega
   ·
    refine kc (S.move (zg rfl rfl) rfl (zt rfl)) (kc (S.neq (zg rfl rfl) rfl (zt rfl) (.cint rfl)) (kc (S.move (zg rfl rfl) rfl (zt rfl)) (RK.splitD (t:=22) rfl (fun g22=>?_) (fun g22=>?_))))
    ·
     refine kc (S.move (zg rfl rfl) rfl (zt rfl)) (kc (S.conv (zg rfl rfl) rfl (zt rfl) Tryz.underlying5 Tryz.underlying3 (IntWalk.i64_in _ (by omega)) (IntWalk.i64_in _ (by omega))) (kc (S.call (rec_within) Tryz.call55 (zg rfl rfl) rfl (zc rfl (.cons (.cint rfl) (.cons (.cint rfl) .nil))) rfl) (kc (S.notD (zg rfl rfl) rfl (zt rfl)) (kc (S.pickT (zg rfl rfl) rfl (zt rfl) (zt rfl) rfl) (kc (S.pickF (zg rfl rfl) rfl (zt rfl) (zt rfl) rfl) (kc (S.pickT .none rfl (zt rfl) (zt rfl) rfl) (kc (za rfl) (kD (OK.ret (Ret.r1 (zo rfl rfl) ?_))))))))))
     refine ret_b ?_
     cases hn:nameC i c<;>simp only[nameC,Bool.or_eq_true,Bool.and_eq_true,Bool.or_eq_false_iff,Bool.and_eq_false_iff,decide_eq_true_eq,decide_eq_false_iff_not]at hn<;>simp<;>omega
    ·
     refine kc (zQ rfl rfl) (kc (zQ rfl rfl) (kc (zQ rfl rfl) (kc (zQ rfl rfl) (kc (S.pickF (zg rfl rfl) rfl (zt rfl) .cbool rfl) (kc (S.pickF (zg rfl rfl) rfl (zt rfl) (zt rfl) rfl) (kc (S.pickT .none rfl (zt rfl) (zt rfl) rfl) (kc (za rfl) (kD (OK.ret (Ret.r1 (zo rfl rfl) ?_))))))))))
     refine ret_b ?_
     cases hn:nameC i c<;>simp only[nameC,Bool.or_eq_true,Bool.and_eq_true,Bool.or_eq_false_iff,Bool.and_eq_false_iff,decide_eq_true_eq,decide_eq_false_iff_not]at hn<;>simp<;>omega
  ·
   refine kc (zQ rfl rfl) (kc (zQ rfl rfl) (kc (zQ rfl rfl) (kc (zu rfl) (kc (zu rfl) (kc (zu rfl) (kc (zu rfl) (kc (zu rfl) (kc (zu rfl) (kc (zu rfl) (kc (zu rfl) (kc (zQ rfl rfl) ?_)))))))))))
   refine kc (S.pickF .none rfl (zt rfl) .cbool rfl) (kc (za rfl) (kD (OK.ret (Ret.r1 (zo rfl rfl) ?_))))
   refine ret_b ?_
   cases hn:nameC i c<;>simp only[nameC,Bool.or_eq_true,Bool.and_eq_true,Bool.or_eq_false_iff,Bool.and_eq_false_iff,decide_eq_true_eq,decide_eq_false_iff_not]at hn<;>simp<;>omega
theorem rec_isName{s:List UInt8}:Ct Tryz.prog 65 [.str s] (.bool (nameOk s)):=by
 refine Ct.intro (rs:=[.tmp 2]) Tryz.func65 rfl Tryz.ntmps65 Tryz.results65 rfl rfl rfl fun w h=>?_
 refine OK.strLen (t:=0) (z:=s) rfl rfl fun hlen=>?_
 unfold maxLen at hlen
 refine kr (kc (zb rfl) (kq (kc (S.assign .none rfl .cfn) (kD (kO (kr ?_))))))
 refine kc (zm rfl) (kc (S.slen Tryz.underlying9 .none rfl (zt rfl)) (kc (S.move .none rfl (.cint rfl)) (kD (OK.block (OK.loop (G:=Nat) [] (fun i=>[(0,.str s),(3,.fn 102 []),(6,.int .i64 s.length),(7,.int .i64 i)]) (fun i=>i≤s.length∧allGo nameC 0 s=allGo nameC i (s.drop i)) (fun i=>s.length - i) 0 ⟨Nat.zero_le _,rfl⟩ ⟨rfl,rfl,rfl,rfl,trivial⟩ (fun _=>rfl) ?_)))))
 rintro i ⟨hi,hg⟩
 refine kr (kc (S.lss .none rfl (zt rfl) (zt rfl)) (kD (kO (kB rfl (fun c8=>?_) (fun c8=>?_)))))
 ·
  have hil:i<s.length:=by omega
  refine OK.skip (Ab.D.code (kO (OK.block (kr (kc (zm rfl) (kc (za rfl) (kq (kc (zm rfl) (kc (zm rfl) (kc (zm rfl) (kc (zm rfl) ?_)))))))))))
  refine kc (S.stridx (n:=i) str9 .none rfl (zt rfl) (zt rfl) rfl (by omega)) (kc (S.callv (rec_isName1 (i:=i) (c:=s[i])) Tryz.call102 .none rfl (zt rfl) (zc rfl (zc rfl .nil)) rfl rfl rfl) (kD (OK.cond rfl rfl (fun c15=>?_) (fun c15=>?_))))
  ·
   refine kr (kc (zb rfl) (kD (OK.ret (Ret.r1 (zo rfl rfl) ?_))))
   exact nameF (by omega) hg (by simpa using c15)
  ·
   refine OK.skip (Ab.D.blk (Ab.D.code (OK.reg ?_)))
   refine kc (zp rfl rfl (by omega)) (kc (zm rfl) (RK.nil (Ab.D.lp ⟨i+1,⟨by omega,nameT (by omega) hg (by simpa using c15)⟩,(by omega),rfl,rfl,rfl,rfl,trivial⟩)))
 ·
  refine OK.exit rfl (kp (kc (zm rfl) (kc (S.slen Tryz.underlying9 .none rfl (zt rfl)) (kc (S.call (rec_within) Tryz.call55 .none rfl (zc rfl (.cons (.cint rfl) (.cons (.cint rfl) .nil))) rfl) (kc (za rfl) (kD (OK.ret (Ret.r1 (zo rfl rfl) ?_))))))))
  rw[show nameOk s=decide (1≤(s.length:Int)∧(s.length:Int)≤12)by rw[nameOk,hg,show i=s.length by omega,List.drop_length];rfl]
theorem rec_part{A:HA}{m:Int}(hok:A.Ok m){n:Int}{J:Mem→(Nat→Prop)→World→Prop}(hS:Stable J)(hJ:∀h Y w,J h Y w→HeapJ A.mem h Y w):CtG Tryz.prog 141 [] [.raw (pV A.b),.int .i64 n] [(3000,.res J)] [(3000,.res J)] (.raw (optP A.pb (ix (fun v=>decide (v.p.num=n)) A.parts))):=by
 refine CtG.intro (rs:=[.tmp 4]) Tryz.func141 rfl Tryz.ntmps141 Tryz.results141 rfl rfl rfl rfl fun w h=>?_
 have hm0:=hok.m0
 have hle:=hok.lp
 refine kr (kc (S.assign .none rfl .craw) (kD (kO (kr ?_))))
 refine kc (zm rfl) (kc (zn rfl rfl) (kc (zr fi130_3 rfl) (kc (S.rload1 (u:=.sl (A.parts.map pRow)) ti128 .none rfl (zt rfl) rfl (ldJ hJ (HeapJ.ld1 (k:=.house) rfl rfl (.sl hok.ps)))) (kc (zk si128 rfl) (kc (S.move .none rfl (.cint rfl)) (kD (OK.block (OK.loop (G:=Nat) [] (fun i=>[(0,.raw (pV A.b)),(10,.sl (A.parts.map pRow)),(11,.int .i64 A.parts.length),(12,.int .i64 i),(3000,.res J),(1,.int .i64 n)]) (fun i=>i≤A.parts.length∧ix (fun v=>decide (v.p.num=n)) A.parts=ixGo (fun v=>decide (v.p.num=n)) i (A.parts.drop i)) (fun i=>A.parts.length - i) 0 ⟨Nat.zero_le _,rfl⟩ ⟨rfl,rfl,rfl,rfl,rfl,rfl,trivial⟩ (fun _=>rfl) ?_))))))))
 rintro i ⟨hi,hg⟩
 refine kr (kc (S.lss .none rfl (zt rfl) (zt rfl)) (kD (kO (kB rfl (fun c13=>?_) (fun c13=>?_)))))
 ·
  have hil:i<A.parts.length:=by omega
  refine OK.skip (Ab.D.code (kO (OK.block (kr (kc (S.indexM (n:=i) si128 .none rfl (zt rfl) (zt rfl) rfl (by omega) rfl) (kc (zV ti119 rfl rfl) (kc (za rfl) (kq (kc (zm rfl) (kc (zn rfl rfl) (kc (zr fi123_0 rfl) ?_)))))))))))
  refine kc (zr fi68_0 rfl) (kc (S.rload1 ti3 .none rfl (zt rfl) rfl (ldJ hJ (HeapJ.ld1 (k:=.p i) (HA.atP hil) rfl (.same _)))) (kc (zm rfl) (kc (S.eql .none rfl (zt rfl) (zt rfl)) (kD (kB rfl (fun c22=>?_) (fun c22=>?_))))))
  ·
   refine kr (kc (zm rfl) (kc (za rfl) (kD (OK.ret ⟨Ret.r1 (zo rfl rfl) ?_,rfl,trivial⟩))))
   refine ret_P (i:=i) ?_ (HA.pb_at hil)
   rw[hg,ixGo_drop _ (by omega)]
   simp_all
  ·
   refine OK.skip (Ab.D.blk (Ab.D.code (OK.reg ?_)))
   refine kc (zp rfl rfl (by omega)) (kc (zm rfl) (RK.nil (Ab.D.lp ⟨i+1,⟨by omega,?_⟩,(by omega),rfl,rfl,rfl,rfl,rfl,rfl,trivial⟩)))
   rw[hg,ixGo_drop _ (by omega)]
   simp_all
 ·
  refine OK.exit rfl (kp (kc (S.assign .none rfl .craw) (kD (OK.ret ⟨Ret.r1 (zo rfl rfl) ?_,rfl,trivial⟩))))
  refine ret_N ?_
  have:i=A.parts.length:=by omega
  subst this
  rw[hg,List.drop_length]
  rfl
theorem rec_coil{A:HA}{m:Int}(hok:A.Ok m){n:List UInt8}{J:Mem→(Nat→Prop)→World→Prop}(hS:Stable J)(hJ:∀h Y w,J h Y w→HeapJ A.mem h Y w):CtG Tryz.prog 99 [] [.raw (pV A.b),.str n] [(3000,.res J)] [(3000,.res J)] (.raw (optP A.cb (ix (fun v=>decide (v.c.name=n)) A.coils))):=by
 refine CtG.intro (rs:=[.tmp 4]) Tryz.func99 rfl Tryz.ntmps99 Tryz.results99 rfl rfl rfl rfl fun w h=>?_
 have hm0:=hok.m0
 have hle:=hok.lc
 refine kr (kc (S.assign .none rfl .craw) (kD (kO (kr ?_))))
 refine kc (zm rfl) (kc (zn rfl rfl) (kc (zr fi130_2 rfl) (kc (S.rload1 (u:=.sl (A.coils.map cRow)) ti127 .none rfl (zt rfl) rfl (ldJ hJ (HeapJ.ld1 (k:=.house) rfl rfl (.sl hok.cs)))) (kc (zk si127 rfl) (kc (S.move .none rfl (.cint rfl)) (kD (OK.block (OK.loop (G:=Nat) [] (fun i=>[(0,.raw (pV A.b)),(10,.sl (A.coils.map cRow)),(11,.int .i64 A.coils.length),(12,.int .i64 i),(3000,.res J),(1,.str n)]) (fun i=>i≤A.coils.length∧ix (fun v=>decide (v.c.name=n)) A.coils=ixGo (fun v=>decide (v.c.name=n)) i (A.coils.drop i)) (fun i=>A.coils.length - i) 0 ⟨Nat.zero_le _,rfl⟩ ⟨rfl,rfl,rfl,rfl,rfl,rfl,trivial⟩ (fun _=>rfl) ?_))))))))
 rintro i ⟨hi,hg⟩
 refine kr (kc (S.lss .none rfl (zt rfl) (zt rfl)) (kD (kO (kB rfl (fun c13=>?_) (fun c13=>?_)))))
 ·
  have hil:i<A.coils.length:=by omega
  refine OK.skip (Ab.D.code (kO (OK.block (kr (kc (S.indexM (n:=i) si127 .none rfl (zt rfl) (zt rfl) rfl (by omega) rfl) (kc (zV ti196 rfl rfl) (kc (za rfl) (kq (kc (zm rfl) (kc (zn rfl rfl) (kc (zr fi201_0 rfl) ?_)))))))))))
  refine kc (zr fi199_0 rfl) (kc (S.rload1 ti9 .none rfl (zt rfl) rfl (ldJ hJ (HeapJ.ld1 (k:=.c i) (HA.atC hil) rfl (.same _)))) (kc (zm rfl) (kc (S.seql .none rfl (zt rfl) (zt rfl)) (kD (kB rfl (fun c22=>?_) (fun c22=>?_))))))
  ·
   refine kr (kc (zm rfl) (kc (za rfl) (kD (OK.ret ⟨Ret.r1 (zo rfl rfl) ?_,rfl,trivial⟩))))
   refine ret_P (i:=i) ?_ (HA.cb_at hil)
   rw[hg,ixGo_drop _ (by omega)]
   simp_all
  ·
   refine OK.skip (Ab.D.blk (Ab.D.code (OK.reg ?_)))
   refine kc (zp rfl rfl (by omega)) (kc (zm rfl) (RK.nil (Ab.D.lp ⟨i+1,⟨by omega,?_⟩,(by omega),rfl,rfl,rfl,rfl,rfl,rfl,trivial⟩)))
   rw[hg,ixGo_drop _ (by omega)]
   simp_all
 ·
  refine OK.exit rfl (kp (kc (S.assign .none rfl .craw) (kD (OK.ret ⟨Ret.r1 (zo rfl rfl) ?_,rfl,trivial⟩))))
  refine ret_N ?_
  have:i=A.coils.length:=by omega
  subst this
  rw[hg,List.drop_length]
  rfl
theorem rec_under{A:HA}{m:Int}(hok:A.Ok m){J:Mem→(Nat→Prop)→World→Prop}(hS:Stable J)(hJ:∀h Y w,J h Y w→HeapJ A.mem h Y w):CtG Tryz.prog 170 [] [.raw (pV A.b)] [(3000,.res J)] [(3000,.res J)] (.raw (optP A.pb (ix (fun v=>decide (v.p.place=0)) A.parts))):=by
 refine CtG.intro (rs:=[.tmp 2]) Tryz.func170 rfl Tryz.ntmps170 Tryz.results170 rfl rfl rfl rfl fun w h=>?_
 have hm0:=hok.m0
 have hle:=hok.lp
 refine kr (kc (S.assign .none rfl .craw) (kD (kO (kr ?_))))
 refine kc (zm rfl) (kc (zn rfl rfl) (kc (zr fi130_3 rfl) (kc (S.rload1 (u:=.sl (A.parts.map pRow)) ti128 .none rfl (zt rfl) rfl (ldJ hJ (HeapJ.ld1 (k:=.house) rfl rfl (.sl hok.ps)))) (kc (zk si128 rfl) (kc (S.move .none rfl (.cint rfl)) (kD (OK.block (OK.loop (G:=Nat) [] (fun i=>[(0,.raw (pV A.b)),(8,.sl (A.parts.map pRow)),(9,.int .i64 A.parts.length),(10,.int .i64 i),(3000,.res J)]) (fun i=>i≤A.parts.length∧ix (fun v=>decide (v.p.place=0)) A.parts=ixGo (fun v=>decide (v.p.place=0)) i (A.parts.drop i)) (fun i=>A.parts.length - i) 0 ⟨Nat.zero_le _,rfl⟩ ⟨rfl,rfl,rfl,rfl,rfl,trivial⟩ (fun _=>rfl) ?_))))))))
 rintro i ⟨hi,hg⟩
 refine kr (kc (S.lss .none rfl (zt rfl) (zt rfl)) (kD (kO (kB rfl (fun c11=>?_) (fun c11=>?_)))))
 ·
  have hil:i<A.parts.length:=by omega
  refine OK.skip (Ab.D.code (kO (OK.block (kr (kc (S.indexM (n:=i) si128 .none rfl (zt rfl) (zt rfl) rfl (by omega) rfl) (kc (zV ti119 rfl rfl) (kc (za rfl) (kq (kc (zm rfl) (kc (zn rfl rfl) (kc (zr fi123_0 rfl) ?_)))))))))))
  refine kc (zr fi68_4 rfl) (kc (S.rload1 ti3 .none rfl (zt rfl) rfl (ldJ hJ (HeapJ.ld1 (k:=.p i) (HA.atP hil) rfl (.same _)))) (kc (zE rfl rfl) (kD (kB rfl (fun c19=>?_) (fun c19=>?_)))))
  ·
   refine kr (kc (zm rfl) (kc (za rfl) (kD (OK.ret ⟨Ret.r1 (zo rfl rfl) ?_,rfl,trivial⟩))))
   refine ret_P (i:=i) ?_ (HA.pb_at hil)
   rw[hg,ixGo_drop _ (by omega)]
   simp_all
  ·
   refine OK.skip (Ab.D.blk (Ab.D.code (OK.reg ?_)))
   refine kc (zp rfl rfl (by omega)) (kc (zm rfl) (RK.nil (Ab.D.lp ⟨i+1,⟨by omega,?_⟩,(by omega),rfl,rfl,rfl,rfl,rfl,trivial⟩)))
   rw[hg,ixGo_drop _ (by omega)]
   simp_all
 ·
  refine OK.exit rfl (kp (kc (S.assign .none rfl .craw) (kD (OK.ret ⟨Ret.r1 (zo rfl rfl) ?_,rfl,trivial⟩))))
  refine ret_N ?_
  have:i=A.parts.length:=by omega
  subst this
  rw[hg,List.drop_length]
  rfl
end Go.Proofs.YtpbalelbenmmbaaGreatDoor
