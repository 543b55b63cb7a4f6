import Derived.Test.YtpbalelbenmmbaaGreatDoorHz
import Derived.Test.YtpbalelbenmmbaaGreatDoorGh
import Derived.Test.YtpbalelbenmmbaaGreatDoorGs
import Derived.Test.YtpbalelbenmmbaaGreatDoorMb
import Derived.Test.YtpbalelbenmmbaaGreatDoorTy
namespace Go.Proofs.YtpbalelbenmmbaaGreatDoor
open Go.Ab
theorem split_cnt{c:UInt8}{l:List UInt8}:(splitC c l).length≤l.length+1:=by
 rw[split_len]
 have:Lib.countByte l c≤l.length:=List.count_le_length
 omega
theorem split_0(c:UInt8)(l:List UInt8):0<(splitC c l).length:=List.length_pos_iff.2 (split_ne c l)
def natI(w:List UInt8):Bool:=sgnC w 7&&decide (0≤sgnV w)
theorem numM_F{w:List UInt8}:numM w false 7=natI w:=num_nb (by decide)
theorem natI_v{w:List UInt8}(h:natI w=true):sgnC w 7=true∧0≤sgnV w∧atoiV w=sgnV w:=by
 unfold natI at h
 rw[Bool.and_eq_true,decide_eq_true_eq]at h
 exact⟨h.1,h.2,numM_v h.1⟩
def parseF(l:List UInt8):Frame×Int:=if natI ((splitC 32 l).getD 0 [])=true then match gath num1 ((splitC 32 l).drop 1)with
 |some vs=>(⟨sgnV ((splitC 32 l).getD 0 []),vs⟩,0)
 |none=>(⟨0,[]⟩,7)
 else(⟨0,[]⟩,7)
theorem getD_0{l:List (List UInt8)}(h:0<l.length):l.getD 0 []=l[0]:=getD_lt h
theorem parseF_F{l:List UInt8}(h:natI ((splitC 32 l)[0]'(split_0 32 l))=false):parseF l=(⟨0,[]⟩,7):=by
 unfold parseF
 rw[getD_0 (split_0 32 l),if_neg (by rw[h];decide)]
theorem parseF_N{l:List UInt8}(h:gath num1 ((splitC 32 l).drop 1)=none):parseF l=(⟨0,[]⟩,7):=by
 unfold parseF
 rw[h]
 split<;>rfl
theorem parseF_S{l:List UInt8}{vs:List Int}(h:natI ((splitC 32 l)[0]'(split_0 32 l))=true)(h2:gath num1 ((splitC 32 l).drop 1)=some vs):parseF l=(⟨sgnV ((splitC 32 l)[0]'(split_0 32 l)),vs⟩,0):=by
 unfold parseF
 rw[getD_0 (split_0 32 l),if_pos h,h2]
set_option maxHeartbeats 1000000 in
theorem mon_ParseFrame{l:List UInt8}(hl:l.length≤100000 - 1):CtT Tryz.prog 171 [.str l] (.tup [.agg (parseF l).1.cs,.int .i64 (parseF l).2]):=by
 refine CtT.intro (rs:=[.cell 2 140,.tmp 3]) Tryz.func171 rfl Tryz.ntmps171 Tryz.results171 rfl rfl rfl fun w h hT=>?_
 have hw0:=split_0 32 l
 have hcn:=split_cnt (c:=32) (l:=l)
 have hwl:∀w∈splitC 32 l,w.length≤100000:=fun w hw=>by have:=split_sub w hw;omega
 refine kr (RK.c (zA (c:=2) ze140 rfl) (kc (zi rfl rfl) (kq (kc (zm rfl) (kc (S.call (str_Split (l:=l) (c:=32) (by omega)) Tryz.call103 .none rfl (zc rfl (.cons (.cstr (l:=[32]) rfl (by decide)) .nil)) rfl) (kc (za rfl) (kq (kc (zm rfl) (kc (S.indexM (n:=0) si103 .none rfl (zt rfl) (.cint rfl) rfl hw0 rfl) (kc (zV ti9 rfl rfl) (kc (S.callT (mon_number (l:=(splitC 32 l)[0]) (b:=false) (hwl _ (List.getElem_mem hw0))) hT Tryz.call104 .none rfl (zc rfl (.cons .cbool .nil)) rfl) ?_)))))))))))
 refine kc (zm rfl) (kc (zX rfl rfl rfl) (kc (zX rfl rfl rfl) (kc (za rfl) (kc (za rfl) (kq (kc (zm rfl) (kc (S.slice (lo:=1) (l':=(splitC 32 l).drop 1) si103 (fun _=>rfl) .none rfl (zt rfl) (.inr ⟨_,_,rfl,(.cint rfl),rfl⟩) (.inl ⟨rfl,rfl,rfl⟩) (by omega) (by omega) (by rw[List.take_length])) ?_)))))))
 refine kc (S.callT (mon_numbers (l:=(splitC 32 l).drop 1) (by rw[List.length_drop];omega) (fun w hw=>hwl w (List.mem_of_mem_drop hw))) hT Tryz.call227 .none rfl (zc rfl .nil) rfl) ?_
 refine kc (zm rfl) (kc (zX rfl rfl rfl) (kc (zX rfl rfl rfl) (kc (za rfl) (kc (za rfl) (kD (kO (kr ?_)))))))
 refine kc (zm rfl) (kc (S.not .none rfl (zt rfl)) (kc (zm rfl) (RK.split (t:=26) rfl (fun g26=>?_) (fun g26=>?_))))
 ·
  have hn0:natI (splitC 32 l)[0]=false:=by rw[←numM_F];simpa using g26
  have hpf:=parseF_F hn0
  refine kc (zQ rfl rfl) (kc (zQ rfl rfl) (kc (S.pickT .none rfl (zt rfl) .cbool rfl) (kD (OK.condT rfl rfl rfl (kr (kc (S.build bu140 rfl .none rfl .nil rfl rfl) (kc (zS ti140 rfl rfl rfl rfl rfl rfl) (kc (zi rfl rfl) (kD (OK.ret (Ret.r2 (.cellN rfl rfl rfl rfl ti140 rfl (.k (.same rfl) (.k .nils .z))) (zo rfl rfl) ?_)))))))))))
  rw[hpf]
  all_goals rfl
 ·
  have hn0:natI (splitC 32 l)[0]=true:=by rw[←numM_F];simpa using g26
  obtain⟨hv1,hv2,hv3⟩:=natI_v hn0
  refine kc (S.move (zg rfl rfl) rfl (zt rfl)) (kc (S.not (zg rfl rfl) rfl (zt rfl)) (kc (S.pickF .none rfl (zt rfl) (zt rfl) rfl) (kD (OK.cond rfl rfl (fun c29=>?_) (fun c29=>?_)))))
  ·
   have hgn:gath num1 ((splitC 32 l).drop 1)=none:=by simpa using c29
   have hpf:=parseF_N hgn
   refine kr (kc (S.build bu140 rfl .none rfl .nil rfl rfl) (kc (zS ti140 rfl rfl rfl rfl rfl rfl) (kc (zi rfl rfl) (kD (OK.ret (Ret.r2 (.cellN rfl rfl rfl rfl ti140 rfl (.k (.same rfl) (.k .nils .z))) (zo rfl rfl) ?_))))))
   rw[hpf]
   all_goals rfl
  ·
   obtain⟨vs,hgs⟩:∃vs,gath num1 ((splitC 32 l).drop 1)=some vs:=Option.isSome_iff_exists.1 (by simpa using c29)
   have hpf:=parseF_S hn0 hgs
   rw[hgs,hv3]
   refine OK.skip (kp (kc (zm rfl) (kc (zm rfl) (kc (S.build bu140 rfl .none rfl (zc rfl (zc rfl .nil)) rfl rfl) (kc (zS ti140 rfl rfl rfl rfl rfl rfl) (kc (zi rfl rfl) (kD (OK.ret (Ret.r2 (.cellN rfl rfl rfl rfl ti140 rfl (.k (.same rfl) (.k (.same rfl) .z))) (zo rfl rfl) ?_)))))))))
   rw[hpf]
   all_goals rfl
end Go.Proofs.YtpbalelbenmmbaaGreatDoor
