import Derived.Test.YtpbalelbenmmbaaGreatDoorHz
import Derived.Test.YtpbalelbenmmbaaGreatDoorGh
import Derived.Test.YtpbalelbenmmbaaGreatDoorGs
import Derived.Test.YtpbalelbenmmbaaGreatDoorMd
import Derived.Test.YtpbalelbenmmbaaGreatDoorTy
namespace Go.Proofs.YtpbalelbenmmbaaGreatDoor
open Go.Ab
theorem ref_num{l:List UInt8}(h:l.length≤100000):Ct Tryz.prog 108 [.str l,.int .i64 7] (.tup [.int .i64 (if sgnC l 7=true then sgnV l else 0),.bool (sgnC l 7)]):=by
 have h1:=base_Number (l:=l) (d:=7) h (by decide)
 rw[numB_sgn]at h1
 cases hs:sgnC l 7 with
 |true=>rw[hs]at h1;exact h1
 |false=>rw[hs]at h1;exact h1
def gathI(k:Nat):Nat→List (List UInt8)→Option (List Int)
 |_,[]=>some []
 |i,w::l=>if sgnC w 7=true∧(0≤sgnV w∨k≤i)then(gathI k (i+1) l).map (sgnV w:: ·)else none
theorem gathI_on{k:Nat}{L:List (List UInt8)}{i:Nat}{out:List Int}(hg:gathI k 0 L=(gathI k i (L.drop i)).map (out++ ·))(hi:i<L.length)(hf:sgnC L[i] 7=true∧(0≤sgnV L[i]∨k≤i)):gathI k 0 L=(gathI k (i+1) (L.drop (i+1))).map ((out++[sgnV L[i]])++ ·):=by
 rw[hg,List.drop_eq_getElem_cons hi,gathI,if_pos hf]
 cases gathI k (i+1) (L.drop (i+1))<;>simp
theorem gathI_no{k:Nat}{L:List (List UInt8)}{i:Nat}{out:List Int}(hg:gathI k 0 L=(gathI k i (L.drop i)).map (out++ ·))(hi:i<L.length)(hf:¬(sgnC L[i] 7=true∧(0≤sgnV L[i]∨k≤i))):gathI k 0 L=none:=by
 rw[hg,List.drop_eq_getElem_cons hi,gathI,if_neg hf]
 rfl
theorem gathI_end{k:Nat}{L:List (List UInt8)}{i:Nat}{out:List Int}(hg:gathI k 0 L=(gathI k i (L.drop i)).map (out++ ·))(hi:i=L.length):gathI k 0 L=some out:=by
 rw[hg,hi,List.drop_length]
 simp[gathI]
theorem gathI_far{k:Nat}:∀(l:List (List UInt8))(i:Nat),k≤i→gathI k i l=gath num1 l
 |[],_,_=>rfl
 |w::l,i,h=>by
  rw[gathI,gath]
  cases hs:sgnC w 7 with
  |true=>rw[if_pos ⟨rfl,.inr h⟩,num1_T hs,gathI_far l (i+1) (by omega)]
  |false=>rw[if_neg (by simp),num1_F hs]
theorem gathI_1{l:List (List UInt8)}(h:0<l.length):gathI 1 0 l=if natI l[0]=true then(gath num1 (l.drop 1)).map (sgnV l[0]:: ·)else none:=by
 cases l with
 |nil=>cases h
 |cons w l=>
  show(if sgnC w 7=true∧(0≤sgnV w∨1≤0)then(gathI 1 (0+1) l).map (sgnV w:: ·)else none)=if natI w=true then(gath num1 l).map (sgnV w:: ·)else none
  rw[gathI_far l 1 (Nat.le_refl _)]
  unfold natI
  by_cases h1:sgnC w 7=true∧0≤sgnV w
  ·rw[if_pos ⟨h1.1,.inl h1.2⟩,if_pos (by rw[h1.1,decide_eq_true h1.2];rfl)]
  ·rw[if_neg (by rintro⟨a,b|b⟩;exact h1 ⟨a,b⟩;omega),if_neg (by rw[Bool.and_eq_true,decide_eq_true_eq];exact h1)]
set_option maxHeartbeats 1000000 in
theorem ref_numbers{l:List (List UInt8)}{k:Nat}(hl:l.length≤100000)(hk:k≤100)(hw:∀w∈l,w.length≤100000):Ct Tryz.prog 69 [.sl (l.map fun s=>[.str s]),.int .i64 (k:Int)] (.tup [ints ((gathI k 0 l).getD []),.bool (gathI k 0 l).isSome]):=by
 refine Ct.intro (rs:=[.tmp 4,.tmp 5]) Tryz.func69 rfl Tryz.ntmps69 Tryz.results69 rfl rfl rfl fun w h=>?_
 refine kr (kc (S.assign .none rfl .cnil) (kc (zb rfl) (kq (RK.c (S.nilOwn (k:=6) (sz:=1) .none rfl) (kD (kO (kr ?_)))))))
 refine kc (zi rfl rfl) (kD (OK.block ?_))
 refine OK.loop2 [6] (fun(i:Nat)(out:List Int)=>[(0,.sl (l.map fun s=>[.str s])),(1,.int .i64 (k:Int)),(6,.own 6 out.length),(2006,.arr 1 (out.map (fun n=>[.int .i64 n]))),(7,.int .i64 i)]) (fun i out=>i≤l.length∧gathI k 0 l=(gathI k i (l.drop i)).map (out++ ·)∧out.length≤i) (fun i out=>l.length - i) (0) ([]) ⟨Nat.zero_le _,by rw[List.drop_zero];cases gathI k 0 l<;>simp,Nat.le_refl _⟩ ⟨rfl,rfl,(lk_own (by first|rfl|(simp;done)|(simp;omega))),(lk_arr (by first|rfl|(simp;done)|(simp;omega))),rfl,trivial⟩ (fun _ _=>rfl) ?_
 rintro i out ⟨hi,hg,hol⟩
 refine OK.seq (kr ?_)
 refine kc (zm rfl) (kc (zm rfl) (kc (zk si103 rfl) (kc (S.lss .none rfl (zt rfl) (zt rfl)) (kD (kB rfl (fun c13=>?_) (fun c13=>?_))))))
 ·
  have hil:i<l.length:=by omega
  have hwl:=hw _ (List.getElem_mem hil)
  refine OK.skip (Ab.D.code (kO (OK.block (kr (kc (zm rfl) (kc (zm rfl) (kc (S.indexM (n:=i) si103 .none rfl (zt rfl) (zt rfl) rfl (by omega) rfl) (kc (zV ti9 rfl rfl) (kc (S.call (ref_num hwl) Tryz.call108 .none rfl (zc rfl (.cons (.cint rfl) .nil)) rfl) (kc (zm rfl) (kc (zX rfl rfl rfl) ?_)))))))))))
  refine kc (zX rfl rfl rfl) (kc (za rfl) (kc (za rfl) (kD (kO (kr ?_)))))
  refine kc (zm rfl) (kc (S.not .none rfl (zt rfl)) (kc (zm rfl) (RK.split (t:=26) rfl (fun g26=>?_) (fun g26=>?_))))
  ·
   have hs0:sgnC l[i] 7=false:=by simpa using g26
   have hge:=gathI_no hg hil (by rw[hs0];simp)
   refine kc (zQ rfl rfl) (kc (zQ rfl rfl) (kc (zQ rfl rfl) (kc (zu rfl) (kc (zu rfl) (kc (zu rfl) (kc (zQ rfl rfl) (kc (S.pickT .none rfl (zt rfl) .cbool rfl) (kD (OK.condT rfl rfl rfl (kr (kc (S.assign .none rfl .cnil) ?_)))))))))))
   refine kc (zb rfl) (kD (OK.ret (Ret.r2 (zo rfl rfl) (zo rfl rfl) ?_)))
   rw[hge]
   all_goals rfl
  ·
   have hs:sgnC l[i] 7=true:=by simpa using g26
   have hvv:(if sgnC l[i] 7=true then sgnV l[i]else 0)=sgnV l[i]:=if_pos hs
   refine kc (S.move (zg rfl rfl) rfl (zt rfl)) (kc (S.lss (zg rfl rfl) rfl (zt rfl) (.cint rfl)) (kc (S.move (zg rfl rfl) rfl (zt rfl)) (RK.splitD (t:=29) rfl (fun g29=>?_) (fun g29=>?_))))
   ·
    refine kc (S.move (zg rfl rfl) rfl (zt rfl)) (kc (S.move (zg rfl rfl) rfl (zt rfl)) (kc (S.lss (zg rfl rfl) rfl (zt rfl) (zt rfl)) (kc (S.pickT (zg rfl rfl) rfl (zt rfl) (zt rfl) rfl) (kc (S.pickF .none rfl (zt rfl) (zt rfl) rfl) (kD (kB rfl (fun c34=>?_) (fun c34=>?_)))))))
    ·
     have hge:=gathI_no hg hil (by rintro⟨_,b|b⟩<;>omega)
     refine kr (kc (S.assign .none rfl .cnil) (kc (zb rfl) (kD (OK.ret (Ret.r2 (zo rfl rfl) (zo rfl rfl) ?_)))))
     rw[hge]
     all_goals rfl
    ·
     have hgo:sgnC l[i] 7=true∧(0≤sgnV l[i]∨k≤i):=⟨hs,.inr (by omega)⟩
     refine OK.skip (Ab.D.code (OK.reg ?_))
     refine kc (zm rfl) (kc (zm rfl) (RK.c (S.mkSlice (k:=37) (rows:=[[_]]) ai47 .none rfl (zc rfl .nil) rfl rfl rfl rfl rfl rfl rfl) ?_))
     refine RK.c (S.append ai47 .none rfl (zt rfl) rfl (by simp) (zt rfl) rfl (by first|rfl|(simp;done)|(simp;omega)) (by omega) (by simp only[maxLen];omega)) ?_
     refine kc (za rfl) (RK.nil (Ab.D.blk (Ab.D.code (OK.reg ?_))))
     refine kc (zm rfl) (kc (zp rfl rfl (by omega)) (kc (za rfl) (RK.nil ?_)))
     refine Ab.D.lp ⟨i+1,out++[sgnV l[i]],⟨by omega,gathI_on hg hil hgo,by simp;omega⟩,(by omega),rfl,rfl,(lk_own (by simp)),(lk_arr (by rw[if_pos hs];simp)),rfl,trivial⟩
   ·
    have hgo:sgnC l[i] 7=true∧(0≤sgnV l[i]∨k≤i):=⟨hs,.inl (by omega)⟩
    refine kc (zQ rfl rfl) (kc (zQ rfl rfl) (kc (zQ rfl rfl) (kc (S.pickF (zg rfl rfl) rfl (zt rfl) .cbool rfl) (kc (S.pickF .none rfl (zt rfl) (zt rfl) rfl) (kD (OK.condF rfl rfl rfl (OK.skip (Ab.D.code (OK.reg ?_)))))))))
    refine kc (zm rfl) (kc (zm rfl) (RK.c (S.mkSlice (k:=37) (rows:=[[_]]) ai47 .none rfl (zc rfl .nil) rfl rfl rfl rfl rfl rfl rfl) ?_))
    refine RK.c (S.append ai47 .none rfl (zt rfl) rfl (by simp) (zt rfl) rfl (by first|rfl|(simp;done)|(simp;omega)) (by omega) (by simp only[maxLen];omega)) ?_
    refine kc (za rfl) (RK.nil (Ab.D.blk (Ab.D.code (OK.reg ?_))))
    refine kc (zm rfl) (kc (zp rfl rfl (by omega)) (kc (za rfl) (RK.nil ?_)))
    refine Ab.D.lp ⟨i+1,out++[sgnV l[i]],⟨by omega,gathI_on hg hil hgo,by simp;omega⟩,(by omega),rfl,rfl,(lk_own (by simp)),(lk_arr (by rw[if_pos hs];simp)),rfl,trivial⟩
 ·
  have hge:=gathI_end hg (show i=l.length by omega)
  refine OK.exit rfl (kp (kc (zm rfl) (kc (za rfl) (kc (zb rfl) (kD ?_)))))
  refine OK.ret (Ret.r2 (.tmp rfl rfl (.c (.own rfl rfl (by first|rfl|(simp;done)|(simp;omega))) rfl) rfl) (zo rfl rfl) ?_)
  rw[hge]
  all_goals rfl
end Go.Proofs.YtpbalelbenmmbaaGreatDoor
namespace Go.Proofs.YtpbalelbenmmbaaGreatDoor
open Go.Ab
theorem clone_str{l:List (List UInt8)}(hl:l.length≤100000):Ct Tryz.prog 106 [.sl (l.map fun s=>[.str s])] (.sl (l.map fun s=>[.str s])):=by
 refine Ct.intro (rs:=[.tmp 2]) Tryz.func106 rfl Tryz.ntmps106 Tryz.results106 rfl rfl rfl fun w h=>?_
 refine kr (kc (S.assign .none rfl .cnil) (kD (kO (kr ?_))))
 refine kc (zm rfl) (RK.slSplit (t:=3) rfl rfl fun bN4 hN4=>?_)
 refine kc (S.eqnilB Tryz.underlying103 .none rfl (zt rfl)) (kD (OK.cond rfl rfl (fun c4=>?_) (fun c4=>?_)))
 ·
  refine kr (kc (S.assign .none rfl .cnil) (kD (OK.ret (Ret.r1 (zo rfl rfl) ?_))))
  rw[List.map_eq_nil_iff.1 (hN4 c4)]
  rfl
 ·
  refine OK.skip (kp (RK.c (S.mkSlice (k:=5) (rows:=[]) ai103 .none rfl .nil rfl rfl rfl rfl rfl rfl rfl) (kc (zm rfl) ?_)))
  refine RK.c (S.appendSl ai103 .none rfl (zt rfl) rfl (by first|rfl|(simp;done)|(simp;omega)) (zt rfl) (by intro q hq;obtain⟨x,_,rfl⟩:=List.mem_map.1 hq;rfl) (List.length_map ..) (by omega) (by simp only[maxLen];omega)) ?_
  refine kc (za rfl) (kD ?_)
  refine OK.ret (Ret.r1 (.tmp rfl rfl (.c (.own rfl rfl (by first|rfl|(simp;done)|(simp;omega))) rfl) rfl) ?_)
  rfl
end Go.Proofs.YtpbalelbenmmbaaGreatDoor
namespace Go.Proofs.YtpbalelbenmmbaaGreatDoor
open Go.Ab
def noneP:Plan:=⟨[],0⟩
def parseP(l:List UInt8):Plan×Int:=if natI ((splitC 32 l).getD 0 [])=true∧((splitC 32 l).any fun w=>decide ([]=w))=false then
    if planErr ⟨(splitC 32 l).drop 1,sgnV ((splitC 32 l).getD 0 [])⟩≠0 then(noneP,planErr ⟨(splitC 32 l).drop 1,sgnV ((splitC 32 l).getD 0 [])⟩)else(⟨(splitC 32 l).drop 1,sgnV ((splitC 32 l).getD 0 [])⟩,0)
 else(noneP,7)
theorem parseP_F{l:List UInt8}(h:natI ((splitC 32 l)[0]'(split_0 32 l))=false∨((splitC 32 l).any fun w=>decide ([]=w))=true):parseP l=(noneP,7):=by
 unfold parseP
 rw[getD_0 (split_0 32 l),if_neg]
 rintro⟨a,b⟩
 rcases h with h|h
 ·rw[a]at h;cases h
 ·rw[b]at h;cases h
theorem parseP_T{l:List UInt8}{p:Plan}(hp:p=⟨(splitC 32 l).drop 1,sgnV ((splitC 32 l)[0]'(split_0 32 l))⟩)(h:natI ((splitC 32 l)[0]'(split_0 32 l))=true)(h2:((splitC 32 l).any fun w=>decide ([]=w))=false):parseP l=if planErr p≠0 then(noneP,planErr p)else(p,0):=by
 subst hp
 unfold parseP
 rw[getD_0 (split_0 32 l),if_pos ⟨h,h2⟩]
set_option maxHeartbeats 1000000 in
theorem mon_ParsePlan{l:List UInt8}(hl:l.length≤100000 - 1):CtT Tryz.prog 66 [.str l] (.tup [.agg (parseP l).1.cs,.int .i64 (parseP l).2]):=by
 refine CtT.intro (rs:=[.cell 2 105,.tmp 3]) Tryz.func66 rfl Tryz.ntmps66 Tryz.results66 rfl rfl rfl fun w h hT=>?_
 have hw0:=split_0 32 l
 have hcn:=split_cnt (c:=32) (l:=l)
 have hwl:∀w∈splitC 32 l,w.length≤100000:=fun w hw=>by have:=split_sub w hw;omega
 refine kr (RK.c (zA (c:=2) ze105 rfl) (kc (zi rfl rfl) (kq (kc (zm rfl) (kc (S.call (str_Split (l:=l) (c:=32) (by omega)) Tryz.call103 .none rfl (zc rfl (.cons (.cstr (l:=[32]) rfl (by decide)) .nil)) rfl) (kc (za rfl) (kq (kc (zm rfl) (kc (S.indexM (n:=0) si103 .none rfl (zt rfl) (.cint rfl) rfl hw0 rfl) (kc (zV ti9 rfl rfl) (kc (S.callT (mon_number (l:=(splitC 32 l)[0]) (b:=false) (hwl _ (List.getElem_mem hw0))) hT Tryz.call104 .none rfl (zc rfl (.cons .cbool .nil)) rfl) ?_)))))))))))
 refine kc (zm rfl) (kc (zX rfl rfl rfl) (kc (zX rfl rfl rfl) (kc (za rfl) (kc (za rfl) (kD (kO (kr ?_)))))))
 refine kc (zm rfl) (kc (S.not .none rfl (zt rfl)) (kc (zm rfl) (RK.split (t:=21) rfl (fun g21=>?_) (fun g21=>?_))))
 ·
  have hn0:natI (splitC 32 l)[0]=false:=by rw[←numM_F];simpa using g21
  have hpf:=parseP_F (.inl hn0)
  refine kc (zQ rfl rfl) (kc (zQ rfl rfl) (kc (S.pickT .none rfl (zt rfl) .cbool rfl) (kD (OK.condT rfl rfl rfl (kr (kc (S.build bu105 rfl .none rfl .nil rfl rfl) (kc (zS ti105 rfl rfl rfl rfl rfl rfl) (kc (zi rfl rfl) (kD (OK.ret (Ret.r2 (.cellN rfl rfl rfl rfl ti105 rfl (.k .nils (.k (.same rfl) .z))) (zo rfl rfl) ?_)))))))))))
  rw[hpf]
  all_goals rfl
 ·
  have hn0:natI (splitC 32 l)[0]=true:=by rw[←numM_F];simpa using g21
  obtain⟨hv1,hv2,hv3⟩:=natI_v hn0
  refine kc (S.move (zg rfl rfl) rfl (zt rfl)) (kc (S.call (contains_str (l:=splitC 32 l) (v:=[])) Tryz.call105 (zg rfl rfl) rfl (zc rfl (.cons (.cstr (l:=[]) rfl (by decide)) .nil)) rfl) (kc (S.pickF .none rfl (zt rfl) (zt rfl) rfl) (kD (OK.cond rfl rfl (fun c24=>?_) (fun c24=>?_)))))
  ·
   have hpf:=parseP_F (.inr c24)
   refine kr (kc (S.build bu105 rfl .none rfl .nil rfl rfl) (kc (zS ti105 rfl rfl rfl rfl rfl rfl) (kc (zi rfl rfl) (kD (OK.ret (Ret.r2 (.cellN rfl rfl rfl rfl ti105 rfl (.k .nils (.k (.same rfl) .z))) (zo rfl rfl) ?_))))))
   rw[hpf]
   all_goals rfl
  ·
   have hpt:=parseP_T rfl hn0 c24
   rw[hv3]
   refine OK.skip (kp (kc (zm rfl) (kc (S.slice (lo:=1) (l':=(splitC 32 l).drop 1) si103 (fun _=>rfl) .none rfl (zt rfl) (.inr ⟨_,_,rfl,(.cint rfl),rfl⟩) (.inl ⟨rfl,rfl,rfl⟩) (by omega) (by omega) (by rw[List.take_length])) ?_)))
   refine kc (S.call (clone_str (l:=(splitC 32 l).drop 1) (by rw[List.length_drop];omega)) Tryz.call106 .none rfl (zc rfl .nil) rfl) ?_
   refine kc (zm rfl) (kc (S.build bu105 rfl .none rfl (zc rfl (zc rfl .nil)) rfl rfl) (RK.c (zA (c:=7) ze105 rfl) (kc (zS ti105 rfl rfl rfl rfl rfl rfl) (kD (kO (kr ?_))))))
   refine kc (zL ti105 rfl rfl rfl rfl) (kc (S.call (mon_CheckPlan (p:=(⟨(splitC 32 l).drop 1,sgnV (splitC 32 l)[0]⟩:Plan))) Tryz.call107 .none rfl (zc rfl .nil) rfl) (kc (zm rfl) (kc (zX rfl rfl rfl) (kc (zX rfl rfl rfl) (kc (za rfl) (kc (za rfl) (kq (kc (zm rfl) (kc (zN rfl rfl) (kD (kB rfl (fun c37=>?_) (fun c37=>?_))))))))))))
   ·
    have hpf:parseP l=(noneP,planErr (⟨(splitC 32 l).drop 1,sgnV (splitC 32 l)[0]⟩:Plan)):=by rw[hpt];exact if_pos c37
    refine kr (kc (S.build bu105 rfl .none rfl .nil rfl rfl) (kc (zm rfl) (kc (zS ti105 rfl rfl rfl rfl rfl rfl) (kc (za rfl) (kD (OK.ret (Ret.r2 (.cellN rfl rfl rfl rfl ti105 rfl (.k .nils (.k (.same rfl) .z))) (zo rfl rfl) ?_)))))))
    rw[hpf]
    all_goals rfl
   ·
    have hpf:parseP l=((⟨(splitC 32 l).drop 1,sgnV (splitC 32 l)[0]⟩:Plan),0):=by rw[hpt];exact if_neg c37
    refine OK.skip (kp (kc (zL ti105 rfl rfl rfl rfl) (kc (zS ti105 rfl rfl rfl rfl rfl rfl) (kc (zi rfl rfl) (kD (OK.ret (Ret.r2 (.cellN rfl rfl rfl rfl ti105 rfl (.k (.same rfl) (.k (.same rfl) .z))) (zo rfl rfl) ?_)))))))
    rw[hpf]
    all_goals rfl
end Go.Proofs.YtpbalelbenmmbaaGreatDoor
