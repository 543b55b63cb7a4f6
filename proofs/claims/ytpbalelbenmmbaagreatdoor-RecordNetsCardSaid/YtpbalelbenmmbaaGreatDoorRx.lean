import Derived.Test.YtpbalelbenmmbaaGreatDoorHz
import Derived.Test.YtpbalelbenmmbaaGreatDoorGh
import Derived.Test.YtpbalelbenmmbaaGreatDoorHj
import Derived.Test.YtpbalelbenmmbaaGreatDoorHo
import Derived.Test.YtpbalelbenmmbaaGreatDoorRn
import Derived.Test.YtpbalelbenmmbaaGreatDoorRu
import Derived.Test.YtpbalelbenmmbaaGreatDoorTy
namespace Go.Proofs.YtpbalelbenmmbaaGreatDoor
open Go.Ab
def ListOk(s:List UInt8):Prop:=CtGT Tryz.prog 243 [4] [.ptr 4 0] [(1004,.box [.str s])] [(1004,.box [.str (lsT s).2])] (.tup [.sl ((lsT s).1.1.map Ph.cs),.bool (lsT s).1.2])
def PhOk(s:List UInt8):Prop:=CtGT Tryz.prog 291 [4] [.ptr 4 0] [(1004,.box [.str s])] [(1004,.box [.str (phT s).2])] (.tup [.agg (phT s).1.1.cx,.bool (phT s).1.2])
set_option maxHeartbeats 2000000 in
theorem rcp_phase{s:List UInt8}(hl:s.length≤100000)(ha:Asc s)(hls:∀s',s'.length<s.length→Asc s'→ListOk s'):CtGT Tryz.prog 291 [4] [.ptr 4 0] [(1004,.box [.str s])] [(1004,.box [.str (phT s).2])] (.tup [.agg (phT s).1.1.cx,.bool (phT s).1.2]):=by
 refine CtGT.intro (rs:=[.cell 2 354,.tmp 3]) Tryz.func291 rfl Tryz.ntmps291 Tryz.results291 rfl rfl rfl rfl fun w h hT=>?_
 refine OK.resNil Unit ?_
 have hkl:=kindR_le s
 have hka:=ha.kind
 refine kr (RK.c (zA (c:=2) ze354 rfl) (kc (zb rfl) (kq (kc (zm rfl) (RK.c (S.callGTF (fs:=[4]) (t:=[(1004,.box [.str s])]) (t':=[(1004,.box [.str (kindR s).2])]) (rcp_kind hl ha) hT Tryz.call334 .none rfl (zc rfl .nil) (by kernel_rfl) ⟨rfl,trivial⟩ (by kernel_rfl) (by kernel_rfl) (by kernel_rfl) (by kernel_rfl) rfl (by kernel_rfl)) ?_)))))
 refine kc (zm rfl) (kc (zX rfl rfl rfl) (kc (zX rfl rfl rfl) (kc (za rfl) (kc (za rfl) (kD (kO (kr ?_)))))))
 refine kc (zm rfl) (kc (S.not .none rfl (zt rfl)) (kD (OK.cond rfl rfl (fun c19=>?_) (fun c19=>?_))))
 ·
  have hk:(kindR s).1=none:=by simpa using c19
  have hT:phT s=((Ph.zero,false),(kindR s).2):=phT_0 hk
  refine kr (kc (S.build bu354 rfl .none rfl .nil rfl rfl) (kc (zS ti354 rfl rfl rfl rfl rfl rfl) (kc (zb rfl) (kD (OK.ret ⟨Ret.r2 (.cellN rfl rfl rfl rfl ti354 rfl (.k (.same rfl) (.k (.same rfl) (.k (.same rfl) (.k (.same rfl) (.k (.same rfl) (.k .nils .z))))))) (zo rfl rfl) ?_,lkBs (by rw[hT]),trivial⟩)))))
  rw[hT]
  rfl
 ·
  obtain⟨k,hk⟩:∃k,(kindR s).1=some k:=Option.isSome_iff_exists.1 (by simpa using c19)
  have hk6:k<6:=(ix_some hk).1
  have hkN:kindN s=(k:Int):=by unfold kindN;rw[hk];rfl
  have hfl:=fields_len k
  rw[hkN]
  refine OK.skip (kp (kc (zm rfl) (kc (S.build bu354 rfl .none rfl (zc rfl .nil) rfl rfl) (RK.c (zA (c:=6) ze354 rfl) (kc (zS ti354 rfl rfl rfl rfl rfl rfl) (kD (kO (OK.giveH (cells':=qCs k (0,0,0,0)) [4,2] [(0,.ptr 4 0),(1004,.box [.str (kindR s).2]),(2,.ptr 2 0),(1002,.box [.int .i64 0,.int .i64 0,.int .i64 0,.int .i64 0,.int .i64 0,.nils]),(3,.bool false),(4,.int .i64 (k:Int))] 6 () rfl rfl rfl rfl rfl rfl ⟨rfl,rfl,rfl,rfl,rfl,rfl,trivial⟩ rfl rfl ⟨.inl ⟨rfl,rfl⟩,.inl ⟨rfl,rfl⟩,.inl ⟨rfl,rfl⟩,.inl ⟨rfl,rfl⟩,.inl ⟨rfl,rfl⟩,.inr ⟨rfl,rfl⟩,trivial⟩ fun b=>?_))))))))
  refine OK.reg (RK.c (S.makeMapO (k:=23) rfl .none rfl) (kc (zr fi354_1 rfl) (kc (zr fi354_3 rfl) (kc (S.mkData (rows:=[[_],[_]]) ai418 .none rfl (zc rfl (zc rfl .nil)) rfl rfl rfl rfl rfl rfl rfl) (kc (S.insertI (key:=0) (l:=(mapF b).take 0) (es':=mapI ((mapF b).take 1)) Tryz.underlying444 Tryz.underlying3 .none (zt rfl) (.cint rfl) (zt rfl) rfl rfl rfl rfl rfl) (kc (zr fi354_3 rfl) (kc (S.mkData (rows:=[[_]]) ai418 .none rfl (zc rfl .nil) rfl rfl rfl rfl rfl rfl rfl) (kc (S.insertI (key:=1) (l:=(mapF b).take 1) (es':=mapI ((mapF b).take 2)) Tryz.underlying444 Tryz.underlying3 .none (zt rfl) (.cint rfl) (zt rfl) rfl rfl rfl rfl rfl) (kc (zr fi354_2 rfl) (kc (zr fi354_3 rfl) (kc (S.mkData (rows:=[[_],[_]]) ai418 .none rfl (zc rfl (zc rfl .nil)) rfl rfl rfl rfl rfl rfl rfl) ?_)))))))))))
  refine kc (S.insertI (key:=2) (l:=(mapF b).take 2) (es':=mapI ((mapF b).take 3)) Tryz.underlying444 Tryz.underlying3 .none (zt rfl) (.cint rfl) (zt rfl) rfl rfl rfl rfl rfl) (kc (zr fi354_4 rfl) (kc (zr fi354_1 rfl) (kc (zr fi354_3 rfl) (kc (S.mkData (rows:=[[_],[_],[_]]) ai418 .none rfl (zc rfl (zc rfl (zc rfl .nil))) rfl rfl rfl rfl rfl rfl rfl) (kc (S.insertI (key:=3) (l:=(mapF b).take 3) (es':=mapI ((mapF b).take 4)) Tryz.underlying444 Tryz.underlying3 .none (zt rfl) (.cint rfl) (zt rfl) rfl rfl rfl rfl rfl) (kc (zr fi354_4 rfl) (kc (zr fi354_2 rfl) (kc (zr fi354_3 rfl) (kc (S.mkData (rows:=[[_],[_],[_]]) ai418 .none rfl (zc rfl (zc rfl (zc rfl .nil))) rfl rfl rfl rfl rfl rfl rfl) (kc (S.insertI (key:=4) (l:=(mapF b).take 4) (es':=mapI ((mapF b).take 5)) Tryz.underlying444 Tryz.underlying3 .none (zt rfl) (.cint rfl) (zt rfl) rfl rfl rfl rfl rfl) (kc (zr fi354_3 rfl) ?_)))))))))))
  refine kc (S.mkData (rows:=[[_]]) ai418 .none rfl (zc rfl .nil) rfl rfl rfl rfl rfl rfl rfl) (kc (S.insertI (key:=5) (l:=(mapF b).take 5) (es':=mapI ((mapF b).take 6)) Tryz.underlying444 Tryz.underlying3 .none (zt rfl) (.cint rfl) (zt rfl) rfl rfl rfl rfl rfl) (kc (zm rfl) (kc (za rfl) (kD (kO (kr ?_))))))
  refine kc (zm rfl) (kc (zm rfl) (kc (S.lookupIn (l:=mapF b) Tryz.underlying444 Tryz.underlying3 .none rfl (zt rfl) (zt rfl) rfl rfl (mapF_at hk6) rfl) (kc (zk si418 rfl) (kc (S.move .none rfl (.cint rfl)) (kD (OK.block (OK.loop3 [4,2] (fun(i:Nat)(q:Q4)(r:List UInt8)=>[(0,.ptr 4 0),(1004,.box [.str r]),(2,.ptr 2 0),(1002,.box [.int .i64 0,.int .i64 0,.int .i64 0,.int .i64 0,.int .i64 0,.nils]),(4,.int .i64 (k:Int)),(6,.raw (pV b)),(45,.sl (ptrsOf b k)),(46,.int .i64 ((fieldsR k).length:Int)),(47,.int .i64 i),(3000,.res (HeapJ (phM b k q)))]) (fun i q r=>i≤(fieldsR k).length∧numsR (fieldsR k) (qPh k (0,0,0,0) []) (kindR s).2=numsR ((fieldsR k).drop i) (qPh k q []) r∧r.length≤(kindR s).2.length∧Asc r) (fun i q r=>(fieldsR k).length - i) (0) (((0,0,0,0):Q4)) ((kindR s).2) ⟨Nat.zero_le _,rfl,Nat.le_refl _,hka⟩ ⟨rfl,rfl,rfl,rfl,rfl,rfl,rfl,(lkI (by simp)),rfl,(lkM (phM_set _ _ _ _)),trivial⟩ (fun _ _ _=>rfl) ?_)))))))
  rintro i q r ⟨hi,hg,hrl,hra⟩
  refine kr (kc (S.lss .none rfl (zt rfl) (zt rfl)) (kD (kO (kB rfl (fun c48=>?_) (fun c48=>?_)))))
  ·
   have hil:i<(fieldsR k).length:=by omega
   refine OK.skip (Ab.D.code (kO (OK.block (kr (kc (S.indexM (n:=i) si418 .none rfl (zt rfl) (zt rfl) rfl (by omega) rfl) (kc (zV ti148 rfl rfl) (kc (za rfl) (kq (kc (zm rfl) (RK.c (S.callGTF (fs:=[4]) (t:=[(1004,.box [.str r])]) (t':=[(1004,.box [.str (numR r).2])]) (rcp_number (by omega) hra) hT Tryz.call335 .none rfl (zc rfl .nil) (by kernel_rfl) ⟨rfl,trivial⟩ (by kernel_rfl) (by kernel_rfl) (by kernel_rfl) (by kernel_rfl) rfl (by kernel_rfl)) ?_))))))))))
   refine kc (zm rfl) (kc (zX rfl rfl rfl) (kc (zX rfl rfl rfl) (kc (za rfl) (kc (za rfl) (kD (kO (kr ?_)))))))
   refine kc (zm rfl) (kc (S.not .none rfl (zt rfl)) (kD (OK.cond rfl rfl (fun c57=>?_) (fun c57=>?_))))
   ·
    have hno:(numR r).1.2=false:=by simpa using c57
    have hT:phT s=((Ph.zero,false),(numR r).2):=phT_1 hk (by rw[hg,numsR_step hil,if_neg (by rw[hno];decide)])
    refine kr (kc (S.build bu354 rfl .none rfl .nil rfl rfl) (kc (zS ti354 rfl rfl rfl rfl rfl rfl) (kc (zb rfl) (kD (OK.ret ⟨Ret.r2 (.cellN rfl rfl rfl rfl ti354 rfl (.k (.same rfl) (.k (.same rfl) (.k (.same rfl) (.k (.same rfl) (.k (.same rfl) (.k .nils .z))))))) (zo rfl rfl) ?_,lkBs (by rw[hT]),trivial⟩)))))
    rw[hT]
    rfl
   ·
    have hok:(numR r).1.2=true:=by simpa using c57
    refine OK.skip (Ab.D.code (OK.reg ?_))
    refine kc (zm rfl) (kc (zm rfl) (kc (zn rfl rfl) (kc (S.hstore (xs:=qCs k q) (xs':=qCs k (q.set (fieldsR k)[i] (numR r).1.1)) (()) ti3 .none (zt rfl) (zt rfl) rfl rfl rfl rfl rfl (qCs_fit (fields_at hil)) (qCs_set (fields_at hil) _)) (RK.nil (Ab.D.blk (Ab.D.code (OK.reg ?_)))))))
    refine kc (zp rfl rfl (by omega)) (kc (zm rfl) (RK.nil (Ab.D.lp ⟨i+1,(q.set (fieldsR k)[i] (numR r).1.1),(numR r).2,⟨by omega,by rw[hg,numsR_step hil,if_pos hok],Nat.le_trans (numR_le r) hrl,hra.num⟩,(by omega),rfl,rfl,rfl,rfl,rfl,rfl,rfl,rfl,rfl,(lkM (phM_set _ _ _ _)),trivial⟩)))
  ·
   have hT2:=phT_2 hk (q:=q) (r:=r) (by rw[hg,show i=(fieldsR k).length by omega,List.drop_length];rfl)
   refine OK.exit rfl (Ab.D.code (kO (kr ?_)))
   refine kc (zm rfl) (kc (zN rfl rfl) (kD (kB rfl (fun c64=>?_) (fun c64=>?_))))
   ·
    have hT:=hT2.trans (if_pos (show k≠5 by omega))
    refine kr (kc (S.rloadN (us:=(qCs k q)) ti354 .none rfl (zt rfl) rfl (HeapJ.ldN (k:=()) (xs:=qCs k q) rfl ⟨.same _,.same _,.same _,.same _,.same _,.same _,trivial⟩ rfl)) (kc (zS ti354 rfl rfl rfl rfl rfl rfl) (kc (zb rfl) (kD (OK.ret ⟨Ret.r2 (.cellN rfl rfl rfl rfl ti354 rfl (.k (.same rfl) (.k (.same rfl) (.k (.same rfl) (.k (.same rfl) (.k (.same rfl) (.k (.same rfl) .z))))))) (zo rfl rfl) ?_,lkBs (by rw[hT]),trivial⟩)))))
    rw[hT]
    rfl
   ·
    have hT3:=hT2.trans (if_neg (show¬k≠5 by omega))
    refine OK.skip (Ab.D.code (kO (kr ?_)))
    refine kc (zm rfl) (RK.c (S.callGF (fs:=[4]) (t:=[(1004,.box [.str r])]) (t':=[(1004,.box [.str (hasR [32,40] r).2])]) (rcp_has (p:=[32,40]) (by omega) (by decide)) Tryz.call292 .none rfl (zc rfl (.cons (.cstr (l:=[32,40]) rfl (by decide)) .nil)) (by kernel_rfl) ⟨rfl,trivial⟩ (by kernel_rfl) (by kernel_rfl) (by kernel_rfl) (by kernel_rfl) rfl (by kernel_rfl)) ?_)
    refine kc (S.not .none rfl (zt rfl)) (kD (OK.cond rfl rfl (fun c68=>?_) (fun c68=>?_)))
    ·
     have hT:=hT3.trans (if_pos (show(hasR [32,40] r).1=false by simpa using c68))
     refine kr (kc (S.build bu354 rfl .none rfl .nil rfl rfl) (kc (zS ti354 rfl rfl rfl rfl rfl rfl) (kc (zb rfl) (kD (OK.ret ⟨Ret.r2 (.cellN rfl rfl rfl rfl ti354 rfl (.k (.same rfl) (.k (.same rfl) (.k (.same rfl) (.k (.same rfl) (.k (.same rfl) (.k .nils .z))))))) (zo rfl rfl) ?_,lkBs (by rw[hT]),trivial⟩)))))
     rw[hT]
     rfl
    ·
     have hh:(hasR [32,40] r).1=true:=by simpa using c68
     have hT4:=hT3.trans (if_neg (by rw[hh];decide))
     have hlt2:(hasR [32,40] r).2.length<s.length:=by have:=has_lt hh (by decide);omega
     refine OK.skip (kp (kc (zm rfl) (RK.c (S.callGTF (fs:=[4]) (t:=[(1004,.box [.str (hasR [32,40] r).2])]) (t':=[(1004,.box [.str (lsT (hasR [32,40] r).2).2])]) (hls _ hlt2 (hra.has _)) hT Tryz.call243 .none rfl (zc rfl .nil) (by kernel_rfl) ⟨rfl,trivial⟩ (by kernel_rfl) (by kernel_rfl) (by kernel_rfl) (by kernel_rfl) rfl (by kernel_rfl)) ?_)))
     refine kc (zm rfl) (kc (zX rfl rfl rfl) (kc (zX rfl rfl rfl) (kc (za rfl) (kc (za rfl) (kq (kc (zm rfl) (kc (zr fi354_5 rfl) (kc (S.hstore (xs:=qCs k q) (xs':=qCsB k q (lsT (hasR [32,40] r).2).1.1) (()) ti131 .none (zt rfl) (zt rfl) rfl rfl rfl rfl rfl rfl rfl) (kD (kO ?_))))))))))
     by_cases g79:(lsT (hasR [32,40] r).2).1.2=true
     ·
      have hT:=hT4.trans (if_pos g79)
      refine OK.regionDraw follows (.c (S.rloadN (us:=(qCsB k q (lsT (hasR [32,40] r).2).1.1)) ti354 .none rfl (zt rfl) rfl (HeapJ.ldN (k:=()) (xs:=qCsB k q (lsT (hasR [32,40] r).2).1.1) (HM.set_same _ _ _) ⟨.same _,.same _,.same _,.same _,.same _,.same _,trivial⟩ rfl)) (.c (zm rfl) (.c (zm rfl) (.c (S.move (.yes rfl rfl rfl (by first|exact g79|simpa using g79)) rfl (zt rfl)) (.c (S.callGF (fs:=[4]) (t:=[(1004,.box [.str (lsT (hasR [32,40] r).2).2])]) (t':=[(1004,.box [.str (hasR [41] (lsT (hasR [32,40] r).2).2).2])]) (rcp_has (p:=[41]) (by have:=lsT_le (hasR [32,40] r).2;omega) (by decide)) Tryz.call292 (.yes rfl rfl rfl (by first|exact g79|simpa using g79)) rfl (zc rfl (.cons (.cstr (l:=[41]) rfl (by decide)) .nil)) (by kernel_rfl) ⟨rfl,trivial⟩ (by kernel_rfl) (by kernel_rfl) (by kernel_rfl) (by kernel_rfl) rfl (by kernel_rfl)) (.c (S.pickT .none rfl (zt rfl) (zt rfl) (by first|exact g79|simpa using g79)) (.c (zS ti354 rfl rfl rfl rfl rfl rfl) (.c (za rfl) .nil)))))))) (by kernel_rfl) ?_
      refine Ab.D.code (OK.ret ⟨Ret.r2 (.cellN rfl rfl rfl rfl ti354 rfl (.k (.same rfl) (.k (.same rfl) (.k (.same rfl) (.k (.same rfl) (.k (.same rfl) (.k (.same rfl) .z))))))) (zo rfl rfl) ?_,lkBs (by rw[hT]),trivial⟩)
      rw[hT]
      rfl
     ·
      have hT:=hT4.trans (if_neg (by simpa using g79))
      refine OK.regionDraw follows (.c (S.rloadN (us:=(qCsB k q (lsT (hasR [32,40] r).2).1.1)) ti354 .none rfl (zt rfl) rfl (HeapJ.ldN (k:=()) (xs:=qCsB k q (lsT (hasR [32,40] r).2).1.1) (HM.set_same _ _ _) ⟨.same _,.same _,.same _,.same _,.same _,.same _,trivial⟩ rfl)) (.c (zm rfl) (.c (zm rfl) (.c (S.skip rfl rfl rfl (by first|exact g79|simpa using g79) rfl) (.c (S.skip rfl rfl rfl (by first|exact g79|simpa using g79) rfl) (.c (S.pickF .none rfl (zt rfl) .cbool (by first|exact g79|simpa using g79)) (.c (zS ti354 rfl rfl rfl rfl rfl rfl) (.c (za rfl) .nil)))))))) (by kernel_rfl) ?_
      refine Ab.D.code (OK.ret ⟨Ret.r2 (.cellN rfl rfl rfl rfl ti354 rfl (.k (.same rfl) (.k (.same rfl) (.k (.same rfl) (.k (.same rfl) (.k (.same rfl) (.k (.same rfl) .z))))))) (zo rfl rfl) ?_,lkBs (by rw[hT]),trivial⟩)
      rw[hT]
      rfl
set_option maxHeartbeats 1000000 in
theorem rcp_list0{s:List UInt8}(hl:s.length≤100000)(ha:Asc s)(hph:∀s',s'.length≤s.length→Asc s'→PhOk s'):CtGT Tryz.prog 243 [4] [.ptr 4 0] [(1004,.box [.str s])] [(1004,.box [.str (lsT s).2])] (.tup [.sl ((lsT s).1.1.map Ph.cs),.bool (lsT s).1.2]):=by
 refine CtGT.intro (rs:=[.tmp 2,.tmp 3]) Tryz.func243 rfl Tryz.ntmps243 Tryz.results243 rfl rfl rfl rfl fun w h hT=>?_
 refine kr (kc (S.assign .none rfl .cnil) (kc (zb rfl) (kq (RK.c (S.nilOwn (k:=890) (sz:=6) .none rfl) (kD (OK.block ?_))))))
 refine OK.loop2 [4,890] (fun(acc:List Ph)(r:List UInt8)=>[(0,.ptr 4 0),(1004,.box [.str r]),(4,.own 890 acc.length),(2890,.arr 6 (acc.map Ph.cs))]) (fun acc r=>lsT s=lsG (r.length+1) acc r∧acc.length+r.length≤s.length∧Asc r) (fun acc r=>r.length) ([]) (s) ⟨rfl,by simp,ha⟩ ⟨rfl,rfl,(lk_own (by first|rfl|(simp;done)|(simp;omega))),(lk_arr (by first|rfl|(simp;done)|(simp;omega))),trivial⟩ (fun _ _=>rfl) ?_
 rintro acc r ⟨hg,hrl,hra⟩
 have hst:=hg.trans (lsT_step _ acc r (by omega))
 have hpl:=phT_le r
 have hpa:=phT_asc hra
 refine OK.block (kr (kc (zm rfl) (RK.c (S.callGTF (fs:=[4]) (t:=[(1004,.box [.str r])]) (t':=[(1004,.box [.str (phT r).2])]) (hph r (by omega) hra) hT Tryz.call291 .none rfl (zc rfl .nil) (by kernel_rfl) ⟨rfl,trivial⟩ (by kernel_rfl) (by kernel_rfl) (by kernel_rfl) (by kernel_rfl) rfl (by kernel_rfl)) ?_)))
 refine kc (zm rfl) (kc (zX rfl rfl rfl) (kc (zX rfl rfl rfl) (RK.c (zA (c:=5) ze354 rfl) (kc (zS ti354 rfl rfl rfl rfl rfl rfl) (kc (za rfl) (kD (kO (kr ?_))))))))
 refine kc (zm rfl) (kc (S.not .none rfl (zt rfl)) (kD (OK.cond rfl rfl (fun c13=>?_) (fun c13=>?_))))
 ·
  have hT:lsT s=(([],false),(phT r).2):=hst.trans (if_pos (by simpa using c13))
  refine kr (kc (S.assign .none rfl .cnil) (kc (zb rfl) (kD (OK.ret ⟨Ret.r2 (zo rfl rfl) (zo rfl rfl) ?_,lkBs (by rw[hT]),trivial⟩))))
  rw[hT]
  rfl
 ·
  have hok:(phT r).1.2=true:=by simpa using c13
  refine OK.skip (kp (kc (zm rfl) (kc (zL ti354 rfl rfl rfl rfl) (RK.c (S.mkSlice (k:=16) (rows:=[[_,_,_,_,_,_]]) ai131 .none rfl (zc rfl .nil) rfl rfl rfl rfl rfl rfl rfl) ?_))))
  refine RK.c (S.append ai131 .none rfl (zt rfl) rfl (by rw[List.length_map]) (zt rfl) rfl (by first|rfl|(simp;done)|(simp;omega)) (by omega) (by simp only[maxLen];omega)) ?_
  refine kc (za rfl) (kq (kc (zm rfl) (RK.c (S.callGF (fs:=[4]) (t:=[(1004,.box [.str (phT r).2])]) (t':=[(1004,.box [.str (hasR [59] (phT r).2).2])]) (rcp_has (p:=[59]) (by omega) (by decide)) Tryz.call292 .none rfl (zc rfl (.cons (.cstr (l:=[59]) rfl (by decide)) .nil)) (by kernel_rfl) ⟨rfl,trivial⟩ (by kernel_rfl) (by kernel_rfl) (by kernel_rfl) (by kernel_rfl) rfl (by kernel_rfl)) ?_)))
  refine kc (S.not .none rfl (zt rfl)) (kD (OK.cond rfl rfl (fun c20=>?_) (fun c20=>?_)))
  ·
   have hT:lsT s=((acc++[(phT r).1.1],true),(hasR [59] (phT r).2).2):=hst.trans ((if_neg (by rw[hok];decide)).trans (if_neg (by simpa using c20)))
   refine kO (OK.freeze 4 rfl rfl rfl (by simp) ?_)
   refine OK.reg (kc (zm rfl) (kc (za rfl) (kc (zb rfl) (kD (OK.ret ⟨Ret.r2 (zo rfl rfl) (zo rfl rfl) ?_,lkBs (by rw[hT]),trivial⟩)))))
   rw[hT]
   dsimp only
   rw[List.map_append,List.map_singleton,←Ph.cx_eq]
   rfl
  ·
   have hm:(hasR [59] (phT r).2).1=true:=by simpa using c20
   refine OK.skip (Ab.D.blk ?_)
   refine Ab.D.lp ⟨(acc++[(phT r).1.1]),(hasR [59] (phT r).2).2,⟨hst.trans ((if_neg (by rw[hok];decide)).trans (if_pos hm)),by rw[List.length_append,List.length_singleton];have:=has_lt hm (by decide);omega,hpa.has _⟩,(by have:=has_lt hm (by decide);omega),rfl,rfl,(lk_own (by simp)),(lk_arr (by rw[List.map_append,List.map_singleton,←Ph.cx_eq];rfl)),trivial⟩
theorem rcp_list{s:List UInt8}(hl:s.length≤100000)(ha:Asc s):ListOk s:=by
 have key:∀(n:Nat)(s:List UInt8),s.length<n→s.length≤100000→Asc s→ListOk s:=by
  intro n
  induction n with
  |zero=>intro s h;omega
  |succ n ih=>
   intro s h hl ha
   exact rcp_list0 hl ha fun s' hs' ha'=>rcp_phase (by omega) ha' fun s2 hs2 ha2=>ih s2 (by omega) (by omega) ha2
 exact key _ s (Nat.lt_succ_self _) hl ha
end Go.Proofs.YtpbalelbenmmbaaGreatDoor
namespace Go.Proofs.YtpbalelbenmmbaaGreatDoor
open Go.Ab
abbrev Fld:=Nat×Int×Int
def fldC(x:Fld):List X:=[rawF x.1,.int .i64 x.2.1,.int .i64 x.2.2]
def fPow:Nat:=360
def fLaw:Nat:=361
def fTic:Nat:=362
def fKel:Nat:=363
def usedR(k:Int):List Fld:=if k=0 then [(fPow,1,10000),(fTic,1,200)]else if k=1 then [(fTic,1,200)]else if k=2 then [(fLaw,0,3),(fTic,1,200)]else if k=3 then [(fKel,200,3000),(fPow,1,10000),(fTic,1,200)]else if k=4 then [(fKel,200,3000),(fLaw,0,3),(fTic,1,200)]else if k=5 then [(fTic,1,10)]else []
theorem cs_cx(l:List Ph):l.map Ph.cs=l.map Ph.cx:=List.map_congr_left fun p _=>p.cx_eq.symm
theorem rcp_power{p:Ph}:Ct Tryz.prog 360 [.agg p.cx] (.int .i64 p.power):=by
 refine Ct.intro (rs:=[.tmp 2]) Tryz.func360 rfl Tryz.ntmps360 Tryz.results360 rfl rfl rfl fun w h=>?_
 refine kr (RK.c (zB (c:=1) rfl rfl) (kc (zi rfl rfl) (kq (kc (zf fi354_1 rfl) (kc (zl ti3 rfl rfl rfl rfl) (kc (za rfl) (kD (OK.ret (Ret.r1 (zo rfl rfl) ?_)))))))))
 rfl
theorem rcp_law{p:Ph}:Ct Tryz.prog 361 [.agg p.cx] (.int .i64 p.law):=by
 refine Ct.intro (rs:=[.tmp 2]) Tryz.func361 rfl Tryz.ntmps361 Tryz.results361 rfl rfl rfl fun w h=>?_
 refine kr (RK.c (zB (c:=1) rfl rfl) (kc (zi rfl rfl) (kq (kc (zf fi354_2 rfl) (kc (zl ti3 rfl rfl rfl rfl) (kc (za rfl) (kD (OK.ret (Ret.r1 (zo rfl rfl) ?_)))))))))
 rfl
theorem rcp_ticks{p:Ph}:Ct Tryz.prog 362 [.agg p.cx] (.int .i64 p.ticks):=by
 refine Ct.intro (rs:=[.tmp 2]) Tryz.func362 rfl Tryz.ntmps362 Tryz.results362 rfl rfl rfl fun w h=>?_
 refine kr (RK.c (zB (c:=1) rfl rfl) (kc (zi rfl rfl) (kq (kc (zf fi354_3 rfl) (kc (zl ti3 rfl rfl rfl rfl) (kc (za rfl) (kD (OK.ret (Ret.r1 (zo rfl rfl) ?_)))))))))
 rfl
theorem rcp_kelvin{p:Ph}:Ct Tryz.prog 363 [.agg p.cx] (.int .i64 p.kelvin):=by
 refine Ct.intro (rs:=[.tmp 2]) Tryz.func363 rfl Tryz.ntmps363 Tryz.results363 rfl rfl rfl fun w h=>?_
 refine kr (RK.c (zB (c:=1) rfl rfl) (kc (zi rfl rfl) (kq (kc (zf fi354_4 rfl) (kc (zl ti3 rfl rfl rfl rfl) (kc (za rfl) (kD (OK.ret (Ret.r1 (zo rfl rfl) ?_)))))))))
 rfl
theorem rcp_used{k:Int}:Ct Tryz.prog 355 [.int .i64 k] (.sl ((usedR k).map fldC)):=by
 refine Ct.intro (rs:=[.tmp 2]) Tryz.func355 rfl Tryz.ntmps355 Tryz.results355 rfl rfl rfl fun w h=>?_
 refine kr (kc (S.assign .none rfl .cnil) (kq (kc (S.build bu467 rfl .none rfl (.cons .cfn (.cons (.cint rfl) (.cons (.cint rfl) .nil))) rfl rfl) (kc (S.build bu467 rfl .none rfl (.cons .cfn (.cons (.cint rfl) (.cons (.cint rfl) .nil))) rfl rfl) (RK.c (zA (c:=3) ze467 rfl) (RK.c (zA (c:=4) ze467 rfl) (kc (zS ti467 rfl rfl rfl rfl rfl rfl) (kc (zS ti467 rfl rfl rfl rfl rfl rfl) (kD (kO (OK.boxTo 3 [rawF fPow,.int .i64 1,.int .i64 10000] rfl rfl fld_to ?_)))))))))))
 refine OK.boxTo 4 [rawF fLaw,.int .i64 0,.int .i64 3] rfl rfl fld_to (OK.reg (kc (S.build bu467 rfl .none rfl (.cons .cfn (.cons (.cint rfl) (.cons (.cint rfl) .nil))) rfl rfl) (kc (S.build bu467 rfl .none rfl (.cons .cfn (.cons (.cint rfl) (.cons (.cint rfl) .nil))) rfl rfl) (RK.c (zA (c:=5) ze467 rfl) (RK.c (zA (c:=6) ze467 rfl) (kc (zS ti467 rfl rfl rfl rfl rfl rfl) (kc (zS ti467 rfl rfl rfl rfl rfl rfl) (kD (kO (kO (OK.boxTo 5 [rawF fTic,.int .i64 1,.int .i64 200] rfl rfl fld_to ?_)))))))))))
 refine OK.boxTo 6 [rawF fKel,.int .i64 200,.int .i64 3000] rfl rfl fld_to (OK.reg (kc (zm rfl) (kD (OK.block (kr (kc (zE rfl rfl) (kc (za rfl) (kD (kB rfl (fun c12=>?_) (fun c12=>?_))))))))))
 ·
  refine kr (kc (zL ti467 rfl rfl rfl rfl) (kc (zL ti467 rfl rfl rfl rfl) (kc (S.mkData (rows:=[[_,_,_],[_,_,_]]) ai463 .none rfl (zc rfl (zc rfl .nil)) rfl rfl rfl rfl rfl rfl rfl) (kc (za rfl) (kD (OK.ret (Ret.r1 (zo rfl rfl) ?_)))))))
  refine congrArg X.sl ?_
  unfold usedR
  simp[*,fldC]
 ·
  refine kr (kc (zE rfl rfl) (kc (za rfl) (kD (kB rfl (fun c17=>?_) (fun c17=>?_)))))
  ·
   refine kr (kc (zL ti467 rfl rfl rfl rfl) (kc (S.mkData (rows:=[[_,_,_]]) ai463 .none rfl (zc rfl .nil) rfl rfl rfl rfl rfl rfl rfl) (kc (za rfl) (kD (OK.ret (Ret.r1 (zo rfl rfl) ?_))))))
   refine congrArg X.sl ?_
   unfold usedR
   simp[*,fldC]
  ·
   refine kr (kc (zE rfl rfl) (kc (za rfl) (kD (kB rfl (fun c21=>?_) (fun c21=>?_)))))
   ·
    refine kr (kc (zL ti467 rfl rfl rfl rfl) (kc (zL ti467 rfl rfl rfl rfl) (kc (S.mkData (rows:=[[_,_,_],[_,_,_]]) ai463 .none rfl (zc rfl (zc rfl .nil)) rfl rfl rfl rfl rfl rfl rfl) (kc (za rfl) (kD (OK.ret (Ret.r1 (zo rfl rfl) ?_)))))))
    refine congrArg X.sl ?_
    unfold usedR
    simp[*,fldC]
   ·
    refine kr (kc (zE rfl rfl) (kc (za rfl) (kD (kB rfl (fun c26=>?_) (fun c26=>?_)))))
    ·
     refine kr (kc (zL ti467 rfl rfl rfl rfl) (kc (zL ti467 rfl rfl rfl rfl) (kc (zL ti467 rfl rfl rfl rfl) (kc (S.mkData (rows:=[[_,_,_],[_,_,_],[_,_,_]]) ai463 .none rfl (zc rfl (zc rfl (zc rfl .nil))) rfl rfl rfl rfl rfl rfl rfl) (kc (za rfl) (kD (OK.ret (Ret.r1 (zo rfl rfl) ?_))))))))
     refine congrArg X.sl ?_
     unfold usedR
     simp[*,fldC]
    ·
     refine kr (kc (zE rfl rfl) (kc (za rfl) (kD (kB rfl (fun c32=>?_) (fun c32=>?_)))))
     ·
      refine kr (kc (zL ti467 rfl rfl rfl rfl) (kc (zL ti467 rfl rfl rfl rfl) (kc (zL ti467 rfl rfl rfl rfl) (kc (S.mkData (rows:=[[_,_,_],[_,_,_],[_,_,_]]) ai463 .none rfl (zc rfl (zc rfl (zc rfl .nil))) rfl rfl rfl rfl rfl rfl rfl) (kc (za rfl) (kD (OK.ret (Ret.r1 (zo rfl rfl) ?_))))))))
      refine congrArg X.sl ?_
      unfold usedR
      simp[*,fldC]
     ·
      refine kr (kc (zE rfl rfl) (kc (za rfl) (kD (kB rfl (fun c38=>?_) (fun c38=>?_)))))
      ·
       refine kr (kc (zf fi467_2 rfl) (kc (S.store ti3 .none (zt rfl) (.cint rfl) rfl rfl rfl rfl rfl rfl) (kq (kc (zL ti467 rfl rfl rfl rfl) (kc (S.mkData (rows:=[[_,_,_]]) ai463 .none rfl (zc rfl .nil) rfl rfl rfl rfl rfl rfl rfl) (kc (za rfl) (kD (OK.ret (Ret.r1 (zo rfl rfl) ?_)))))))))
       refine congrArg X.sl ?_
       unfold usedR
       simp[*,fldC]
      ·
       refine OK.skip (Ab.D.blk (kp (kc (S.assign .none rfl .cnil) (kD (OK.ret (Ret.r1 (zo rfl rfl) ?_))))))
       refine congrArg X.sl ?_
       unfold usedR
       simp[*,fldC]
end Go.Proofs.YtpbalelbenmmbaaGreatDoor
