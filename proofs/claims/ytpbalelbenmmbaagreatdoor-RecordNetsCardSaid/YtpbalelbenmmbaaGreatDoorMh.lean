import Derived.Test.YtpbalelbenmmbaaGreatDoorHz
import Derived.Test.YtpbalelbenmmbaaGreatDoorGh
import Derived.Test.YtpbalelbenmmbaaGreatDoorGs
import Derived.Test.YtpbalelbenmmbaaGreatDoorHo
import Derived.Test.YtpbalelbenmmbaaGreatDoorMe
import Derived.Test.YtpbalelbenmmbaaGreatDoorRp
import Derived.Test.YtpbalelbenmmbaaGreatDoorTy
namespace Go.Proofs.YtpbalelbenmmbaaGreatDoor
open Go.Ab
theorem gathI_w{w:List UInt8}:gathI 1 0 [w]=if natI w=true then some [sgnV w]else none:=by
 have h:=gathI_1 (l:=[w]) (by simp)
 rw[h]
 rfl
theorem take_1{l:List (List UInt8)}(h:0<l.length):l.take 1=[l[0]]:=by
 cases l with
 |nil=>cases h
 |cons x r=>rfl
set_option maxHeartbeats 1000000 in
theorem ref_ParsePlan{l:List UInt8}(hl:l.length≤100000 - 1):Ct Tryz.prog 44 [.str l] (.tup [.agg (parseP l).1.cs,.int .i64 (parseP l).2]):=by
 refine Ct.intro (rs:=[.cell 2 105,.tmp 3]) Tryz.func44 rfl Tryz.ntmps44 Tryz.results44 rfl rfl rfl fun w h=>?_
 have hw0:=split_0 32 l
 have hcn:=split_cnt (c:=32) (l:=l)
 have hwl:∀w∈splitC 32 l,w.length≤100000:=fun w hw=>by have:=split_sub w hw;omega
 have hgw:=gathI_w (w:=(splitC 32 l)[0])
 have hdl:((splitC 32 l).drop 1).length≤100000:=by rw[List.length_drop];omega
 refine kr (RK.c (zA (c:=2) ze105 rfl) (kc (zi rfl rfl) (kq (kc (S.build bu105 rfl .none rfl .nil rfl rfl) (RK.c (zA (c:=4) ze105 rfl) (kc (zS ti105 rfl rfl rfl rfl rfl rfl) (kq (kc (zm rfl) (kc (S.call (base_Cut (l:=l) (c:=32) (by omega)) Tryz.call68 .none rfl (zc rfl (.cons (.cint rfl) .nil)) rfl) (kc (za rfl) (kq ?_)))))))))))
 refine kc (zm rfl) (kc (S.slice (hi:=1) (l':=[(splitC 32 l)[0]]) si103 (fun _=>rfl) .none rfl (zt rfl) (.inl ⟨rfl,rfl,rfl⟩) (.inr ⟨_,_,rfl,(.cint rfl),rfl⟩) (by omega) (by omega) (by rw[List.drop_zero,take_1 hw0])) ?_)
 refine kc (S.call (ref_numbers (l:=[(splitC 32 l)[0]]) (k:=1) (by simp) (by decide) (fun w hw=>by rw[List.mem_singleton.1 hw];exact hwl _ (List.getElem_mem hw0))) Tryz.call69 .none rfl (zc rfl (.cons (.cint rfl) .nil)) rfl) ?_
 refine kc (zm rfl) (kc (zX rfl rfl rfl) (kc (zX rfl rfl rfl) (kc (za rfl) (kc (za rfl) (kD (kO (kr ?_)))))))
 refine kc (zm rfl) (kc (S.not .none rfl (zt rfl)) (kc (zm rfl) (RK.split (t:=21) rfl (fun g21=>?_) (fun g21=>?_))))
 ·
  have hn0:natI (splitC 32 l)[0]=false:=by
   cases hb:natI (splitC 32 l)[0]with
   |false=>rfl
   |true=>rw[hgw,if_pos hb]at g21;cases g21
  have hpf:=parseP_F (.inl hn0)
  refine kc (zQ rfl rfl) (kc (zQ rfl rfl) (kc (S.pickT .none rfl (zt rfl) .cbool rfl) (kD (OK.condT rfl rfl rfl (kr (kc (zL ti105 rfl rfl rfl rfl) (kc (zS ti105 rfl rfl rfl rfl rfl rfl) (kc (zi rfl rfl) (kD (OK.ret (Ret.r2 (.cellN rfl rfl rfl rfl ti105 rfl (.k .nils (.k (.same rfl) .z))) (zo rfl rfl) ?_)))))))))))
  rw[hpf]
  all_goals rfl
 ·
  have hn0:natI (splitC 32 l)[0]=true:=by
   cases hb:natI (splitC 32 l)[0]with
   |true=>rfl
   |false=>rw[hgw,hb]at g21;cases g21
  rw[if_pos hn0]at hgw
  refine kc (S.move (zg rfl rfl) rfl (zt rfl)) (kc (S.call (base_HasText (l:=splitC 32 l) (s:=[])) Tryz.call70 (zg rfl rfl) rfl (zc rfl (.cons (.cstr (l:=[]) rfl (by decide)) .nil)) rfl) (kc (S.pickF .none rfl (zt rfl) (zt rfl) rfl) (kD (OK.cond rfl rfl (fun c24=>?_) (fun c24=>?_)))))
  ·
   have hpf:=parseP_F (.inr c24)
   refine kr (kc (zL ti105 rfl rfl rfl rfl) (kc (zS ti105 rfl rfl rfl rfl rfl rfl) (kc (zi rfl rfl) (kD (OK.ret (Ret.r2 (.cellN rfl rfl rfl rfl ti105 rfl (.k .nils (.k (.same rfl) .z))) (zo rfl rfl) ?_))))))
   rw[hpf]
   all_goals rfl
  ·
   have hpt:=parseP_T rfl hn0 c24
   rw[hgw]
   refine OK.skip (Ab.D.code (kO ?_))
   refine OK.regionDraw follows (.c (zm rfl) (.c (S.indexM (n:=0) si47 .none rfl (zt rfl) (.cint rfl) rfl (by simp) rfl) (.c (zV ti3 rfl rfl) (.c (S.mkSlice (k:=29) (rows:=[]) ai103 .none rfl .nil rfl rfl rfl rfl rfl rfl rfl) (.c (zm rfl) (.c (S.slice (lo:=1) (l':=(splitC 32 l).drop 1) si103 (fun _=>rfl) .none rfl (zt rfl) (.inr ⟨_,_,rfl,(.cint rfl),rfl⟩) (.inl ⟨rfl,rfl,rfl⟩) (by omega) (by omega) (by rw[List.take_length])) (.c (S.frz (rows':=((splitC 32 l).drop 1).map (fun s=>[.str s])) (S.appendSl ai103 .none rfl (zt rfl) rfl (by first|rfl|(simp;done)|(simp;omega)) (zt rfl) (by intro q hq;obtain⟨x,_,rfl⟩:=List.mem_map.1 hq;rfl) (List.length_map ..) (by omega) (by simp only[maxLen];omega)) (by simp) (by simp) rfl rfl) (.c (S.build bu105 rfl .none rfl (zc rfl (zc rfl .nil)) rfl rfl) (.c (zA (c:=8) ze105 rfl) (.c (zS ti105 rfl rfl rfl rfl rfl rfl) .nil)))))))))) (by kernel_rfl) ?_
   refine Ab.D.code (kO (kr ?_))
   refine kc (zL ti105 rfl rfl rfl rfl) (kc (S.call (ref_PlanErr (p:=(⟨(splitC 32 l).drop 1,sgnV (splitC 32 l)[0]⟩:Plan))) Tryz.call71 .none rfl (zc rfl .nil) rfl) (kc (za rfl) (kq (kc (zm rfl) (kc (zN rfl rfl) (kD (kB rfl (fun c37=>?_) (fun c37=>?_))))))))
   ·
    have hpf:parseP l=(noneP,planErr (⟨(splitC 32 l).drop 1,sgnV (splitC 32 l)[0]⟩:Plan)):=by rw[hpt];exact if_pos c37
    refine kr (kc (zL ti105 rfl rfl rfl rfl) (kc (zm rfl) (kc (zS ti105 rfl rfl rfl rfl rfl rfl) (kc (za rfl) (kD (OK.ret (Ret.r2 (.cellN rfl rfl rfl rfl ti105 rfl (.k .nils (.k (.same rfl) .z))) (zo rfl rfl) ?_)))))))
    rw[hpf]
    all_goals rfl
   ·
    have hpf:parseP l=((⟨(splitC 32 l).drop 1,sgnV (splitC 32 l)[0]⟩:Plan),0):=by rw[hpt];exact if_neg c37
    refine OK.skip (kp (kc (zL ti105 rfl rfl rfl rfl) (kc (zS ti105 rfl rfl rfl rfl rfl rfl) (kc (zi rfl rfl) (kD (OK.ret (Ret.r2 (.cellN rfl rfl rfl rfl ti105 rfl (.k (.same rfl) (.k (.same rfl) .z))) (zo rfl rfl) ?_)))))))
    rw[hpf]
    all_goals rfl
end Go.Proofs.YtpbalelbenmmbaaGreatDoor
namespace Go.Proofs.YtpbalelbenmmbaaGreatDoor
open Go.Ab
def fewN(n:Net):Bool:=decide (n.people.length≤10)&&decide (n.plan.length≤80)&&n.people.all fun p=>decide (p.name.length≤20)
theorem fewN_plan{n:Net}(h:fewN n=true):n.plan.length≤80:=by
 unfold fewN at h
 rw[Bool.and_eq_true,Bool.and_eq_true]at h
 exact of_decide_eq_true h.1.2
theorem sizeE_0{n:Net}(h:n.people.length=0):sizeE n=10:=by unfold sizeE;rw[h];rfl
theorem sizeE_8{n:Net}(h:8<n.people.length):sizeE n=8:=by
 unfold sizeE
 rw[decide_eq_true (show((n.people.length:Nat):Int)>0 by omega),decide_eq_false (show¬((n.people.length:Nat):Int)≤8 by omega)]
 rfl
theorem sizeE_k{n:Net}(h0:n.people.length≠0)(h:¬8<n.people.length):sizeE n=0:=by
 unfold sizeE
 rw[decide_eq_true (show((n.people.length:Nat):Int)>0 by omega),decide_eq_true (show((n.people.length:Nat):Int)≤8 by omega)]
 rfl
theorem personE_4{l:List Person}{i:Nat}{p:Person}(h:nameOk p.name=false):personE l i p=4:=by unfold personE;rw[h];rfl
theorem personE_5{l:List Person}{i:Nat}{p:Person}(h:nameOk p.name=true)(h2:p.name∈(l.take i).map Person.name):personE l i p=5:=by unfold personE;rw[h,decide_eq_false (not_not_intro h2)];rfl
theorem personE_15{l:List Person}{i:Nat}{p:Person}(h:nameOk p.name=true)(h2:¬p.name∈(l.take i).map Person.name)(h3:¬(0≤p.role∧p.role≤4)):personE l i p=15:=by unfold personE;rw[h,decide_eq_true h2,decide_eq_false h3];rfl
theorem personE_0{l:List Person}{i:Nat}{p:Person}(h:nameOk p.name=true)(h2:¬p.name∈(l.take i).map Person.name)(h3:0≤p.role∧p.role≤4):personE l i p=0:=by unfold personE;rw[h,decide_eq_true h2,decide_eq_true h3];rfl
theorem netT_at{n:Net}{i:Nat}(hz:sizeE n=0)(hi:i<n.people.length)(hg:eachGo (personE n.people) 0 n.people=eachGo (personE n.people) i (n.people.drop i))(he:personE n.people i n.people[i]≠0):netT n=((i:Int),personE n.people i n.people[i]):=by
 have hee:eachGo (personE n.people) 0 n.people=((i:Int),personE n.people i n.people[i]):=by rw[hg,eachGo_drop _ hi,if_pos he]
 rw[(netT_2 hz (by rw[hee];exact he)).1,hee]
theorem name_in{l:List Person}{i j:Nat}(hi:i≤l.length)(hj:j<i):(l[j]'(by omega)).name∈(l.take i).map Person.name:=
 List.mem_map.2 ⟨l[j]'(by omega),List.mem_iff_getElem.2 ⟨j,by rw[List.length_take];omega,by rw[List.getElem_take]⟩,rfl⟩
theorem name_out{l:List Person}{i:Nat}{s:List UInt8}(hi:i≤l.length)(h:∀j (hj:j<i),(l[j]'(by omega)).name≠s):¬s∈(l.take i).map Person.name:=by
 intro hm
 obtain⟨p,hp,rfl⟩:=List.mem_map.1 hm
 obtain⟨j,hj,rfl⟩:=List.mem_iff_getElem.1 hp
 rw[List.length_take]at hj
 rw[List.getElem_take]at h
 exact h j (by omega) rfl
set_option maxHeartbeats 1000000 in
theorem ref10_CheckNet{n:Net}(hp:n.plan.length≤1000):Ct Tryz.prog 11 [.agg n.cs] (.tup [.int .i64 (netT n).1,.int .i64 (netT n).2]):=by
 refine Ct.intro (rs:=[.tmp 2,.tmp 3]) Tryz.func11 rfl Tryz.ntmps11 Tryz.results11 rfl rfl rfl fun w h=>?_
 refine kr (RK.c (zB (c:=1) rfl rfl) (kc (zi rfl rfl) (kc (zi rfl rfl) (kD (kO (kr ?_))))))
 refine kc (zf fi26_0 rfl) (kc (zl ti22 rfl rfl rfl rfl) (kc (zk si22 rfl) (kc (zE rfl rfl) (kD (kB rfl (fun c11=>?_) (fun c11=>?_))))))
 ·
  have hT:netT n=(0,10):=by rw[(netT_1 (n:=n) (by rw[sizeE_0 (by omega)];decide)).1,sizeE_0 (by omega)]
  refine kr (kc (zi rfl rfl) (kc (zi rfl rfl) (kD (OK.ret (Ret.r2 (zo rfl rfl) (zo rfl rfl) ?_)))))
  rw[hT]
  try rfl
 ·
  refine OK.skip (Ab.D.code (kO (kr ?_)))
  refine kc (zf fi26_0 rfl) (kc (zl ti22 rfl rfl rfl rfl) (kc (zk si22 rfl) (kc (S.gtr .none rfl (zt rfl) (.cint rfl)) (kD (kB rfl (fun c15=>?_) (fun c15=>?_))))))
  ·
   have hT:netT n=(0,8):=by rw[(netT_1 (n:=n) (by rw[sizeE_8 (by omega)];decide)).1,sizeE_8 (by omega)]
   refine kr (kc (zi rfl rfl) (kc (zi rfl rfl) (kD (OK.ret (Ret.r2 (zo rfl rfl) (zo rfl rfl) ?_)))))
   rw[hT]
   try rfl
  ·
   have hz:sizeE n=0:=sizeE_k (by omega) (by omega)
   refine OK.skip (Ab.D.code (kO (kr ?_)))
   refine kc (zi rfl rfl) (kD (OK.block (OK.loop (G:=Nat) [1] (fun i=>[(1,.ptr 1 0),(1001,.box n.cs),(4,.int .i64 i)]) (fun i=>i≤n.people.length∧eachGo (personE n.people) 0 n.people=eachGo (personE n.people) i (n.people.drop i)) (fun i=>n.people.length - i) 0 ⟨Nat.zero_le _,rfl⟩ ⟨rfl,rfl,rfl,trivial⟩ (fun _=>rfl) ?_)))
   rintro i ⟨hi,hg⟩
   refine OK.seq (kr ?_)
   refine kc (zm rfl) (kc (zf fi26_0 rfl) (kc (zl ti22 rfl rfl rfl rfl) (kc (zk si22 rfl) (kc (S.lss .none rfl (zt rfl) (zt rfl)) (kD (kB rfl (fun c20=>?_) (fun c20=>?_)))))))
   ·
    have hil:i<n.people.length:=by omega
    refine OK.skip (Ab.D.code (kO (OK.block (OK.seq (kr ?_)))))
    refine kc (zf fi26_0 rfl) (kc (zl ti22 rfl rfl rfl rfl) (kc (zm rfl) (kc (S.indexM (n:=i) si22 .none rfl (zt rfl) (zt rfl) rfl (by omega) rfl) (kc (S.field fi102_0 .none rfl (zt rfl) rfl) (kc (zV ti9 rfl rfl) (kc (S.call (base_IsName) Tryz.call43 .none rfl (zc rfl .nil) rfl) (kc (S.not .none rfl (zt rfl)) (kD (OK.cond rfl rfl (fun c30=>?_) (fun c30=>?_))))))))))
    ·
     have hno:nameOk n.people[i].name=false:=by simpa using c30
     have hpe:personE n.people i n.people[i]=4:=personE_4 hno
     have hT:=netT_at hz hil hg (by rw[hpe];decide)
     rw[hpe]at hT
     refine kr (kc (zm rfl) (kc (za rfl) (kc (zi rfl rfl) (kD (OK.ret (Ret.r2 (zo rfl rfl) (zo rfl rfl) ?_))))))
     rw[hT]
     try rfl
    ·
     have hno:nameOk n.people[i].name=true:=by simpa using c30
     refine OK.skip (Ab.D.code (kO (kr ?_)))
     refine kc (zi rfl rfl) (kD (OK.block (OK.loop (G:=Nat) [1] (fun j=>[(1,.ptr 1 0),(1001,.box n.cs),(4,.int .i64 i),(5,.int .i64 j)]) (fun j=>j≤i∧∀k (hk:k<j),k<i→(n.people[k]?.map Person.name)≠some n.people[i].name) (fun j=>i - j) 0 ⟨Nat.zero_le _,fun k hk=>by omega⟩ ⟨rfl,rfl,rfl,rfl,trivial⟩ (fun _=>rfl) ?_)))
     rintro j ⟨hj,hne⟩
     refine OK.seq (kr ?_)
     refine kc (zm rfl) (kc (zm rfl) (kc (S.lss .none rfl (zt rfl) (zt rfl)) (kD (kB rfl (fun c34=>?_) (fun c34=>?_)))))
     ·
      have hji:j<i:=by omega
      have hjl:j<n.people.length:=by omega
      refine OK.skip (Ab.D.code (kO (OK.block (kO (OK.regionDraw follows (.c (zf fi26_0 rfl) (.c (zl ti22 rfl rfl rfl rfl) (.c (zm rfl) (.c (S.indexM (n:=j) si22 .none rfl (zt rfl) (zt rfl) rfl (by omega) rfl) (.c (S.field fi102_0 .none rfl (zt rfl) rfl) (.c (zV ti9 rfl rfl) (.c (zf fi26_0 rfl) (.c (zl ti22 rfl rfl rfl rfl) (.c (zm rfl) (.c (S.indexM (n:=i) si22 .none rfl (zt rfl) (zt rfl) rfl (by omega) rfl) (.c (S.field fi102_0 .none rfl (zt rfl) rfl) (.c (zV ti9 rfl rfl) (.c (S.seql .none rfl (zt rfl) (zt rfl)) .nil))))))))))))) (by kernel_rfl) ?_)))))
      refine Ab.D.code (kB rfl (fun c49=>?_) (fun c49=>?_))
      ·
       have hpe:personE n.people i n.people[i]=5:=personE_5 hno (by rw[←show n.people[j].name=n.people[i].name from c49];exact name_in hi hji)
       have hT:=netT_at hz hil hg (by rw[hpe];decide)
       rw[hpe]at hT
       refine kr (kc (zm rfl) (kc (za rfl) (kc (zi rfl rfl) (kD (OK.ret (Ret.r2 (zo rfl rfl) (zo rfl rfl) ?_))))))
       rw[hT]
       try rfl
      ·
       refine OK.skip (Ab.D.blk (Ab.D.code (OK.reg ?_)))
       refine kc (zm rfl) (kc (zp rfl rfl (by omega)) (kc (za rfl) (RK.nil ?_)))
       refine Ab.D.lp ⟨j+1,⟨by omega,fun k hk hki=>by by_cases e:k=j;subst e;rw[List.getElem?_eq_getElem hjl];exact fun e=>c49 (Option.some.inj e);exact hne k (by omega) hki⟩,(by omega),rfl,rfl,rfl,rfl,trivial⟩
     ·
      have hout:¬n.people[i].name∈(n.people.take i).map Person.name:=name_out hi fun k hk e=>hne k (by omega) hk (by rw[List.getElem?_eq_getElem (show k<n.people.length by omega)];exact congrArg some e)
      refine OK.exit rfl (kp (kc (zf fi26_0 rfl) (kc (zl ti22 rfl rfl rfl rfl) (kc (zm rfl) (kc (S.indexM (n:=i) si22 .none rfl (zt rfl) (zt rfl) rfl (by omega) rfl) (kc (S.field fi102_1 .none rfl (zt rfl) rfl) (kc (zV ti3 rfl rfl) (kc (S.call (base_Within) Tryz.call35 .none rfl (zc rfl (.cons (.cint rfl) (.cons (.cint rfl) .nil))) rfl) (kc (S.notD .none rfl (zt rfl)) (kD (kB rfl (fun c58=>?_) (fun c58=>?_))))))))))))
      ·
       have hpe:personE n.people i n.people[i]=15:=personE_15 hno hout (by simpa using c58)
       have hT:=netT_at hz hil hg (by rw[hpe];decide)
       rw[hpe]at hT
       refine kr (kc (zm rfl) (kc (za rfl) (kc (zi rfl rfl) (kD (OK.ret (Ret.r2 (zo rfl rfl) (zo rfl rfl) ?_))))))
       rw[hT]
       try rfl
      ·
       have hpe:personE n.people i n.people[i]=0:=personE_0 hno hout (by simpa using c58)
       refine OK.skip (Ab.D.blk (Ab.D.code (OK.reg ?_)))
       refine kc (zm rfl) (kc (zp rfl rfl (by omega)) (kc (za rfl) (RK.nil ?_)))
       refine Ab.D.lp ⟨i+1,⟨by omega,by rw[hg,eachGo_drop _ hil,if_neg (by rw[hpe];decide)]⟩,(by omega),rfl,rfl,rfl,trivial⟩
   ·
    have hee:(eachGo (personE n.people) 0 n.people).2=0:=by rw[hg,show i=n.people.length by omega,List.drop_length];rfl
    have hN:=(netT_3 hz hee).1
    refine OK.exit rfl (Ab.D.code (kO (kr ?_)))
    refine kc (zf fi26_1 rfl) (kc (zl ti9 rfl rfl rfl rfl) (kc (S.call (ref_ParsePlan (l:=n.plan) (by omega)) Tryz.call44 .none rfl (zc rfl .nil) rfl) (kc (zm rfl) (kc (zX rfl rfl rfl) (kc (zX rfl rfl rfl) (RK.c (zA (c:=6) ze105 rfl) (kc (zS ti105 rfl rfl rfl rfl rfl rfl) (kc (za rfl) (kq (kc (zm rfl) (kc (zN rfl rfl) ?_)))))))))))
    refine kD (kB rfl (fun c67=>?_) (fun c67=>?_))
    ·
     refine kr (kc (zm rfl) (kc (zi rfl rfl) (kc (za rfl) (kD (OK.ret (Ret.r2 (zo rfl rfl) (zo rfl rfl) ?_))))))
     rw[hN]
     unfold endE rangeB
     first|(rw[Decidable.not_not.1 c67,decide_eq_false g73,Bool.false_and];rfl)|(have e1:decide (0≤n.lo∧n.lo≤10000)=false:=(by simpa using g80);have e2:decide (0≤n.limit∧n.limit≤2000)=true:=(by simpa using g73);rw[Decidable.not_not.1 c67,e2,e1,Bool.true_and,Bool.false_and];rfl)|simp_all[firstE,unlessE]
    ·
     refine OK.skip (Ab.D.code (kO (kr ?_)))
     refine kc (zf fi26_2 rfl) (kc (zl ti3 rfl rfl rfl rfl) (kc (S.call (base_Within) Tryz.call35 .none rfl (zc rfl (.cons (.cint rfl) (.cons (.cint rfl) .nil))) rfl) (kc (S.notD .none rfl (zt rfl)) (kc (zm rfl) (RK.splitD (t:=73) rfl (fun g73=>?_) (fun g73=>?_))))))
     ·
      refine kc (zQ rfl rfl) (kc (zQ rfl rfl) (kc (zQ rfl rfl) (kc (zQ rfl rfl) (kc (zQ rfl rfl) (kc (S.pickT .none rfl (zt rfl) .cbool rfl) (kc (zm rfl) (kc (zQ rfl rfl) (kc (zQ rfl rfl) (kc (zQ rfl rfl) (kc (zQ rfl rfl) (kc (zQ rfl rfl) ?_)))))))))))
      refine kc (S.pickT .none rfl (zt rfl) .cbool rfl) (kD (OK.condT rfl rfl rfl (kr (kc (zi rfl rfl) (kc (zi rfl rfl) (kD (OK.ret (Ret.r2 (zo rfl rfl) (zo rfl rfl) ?_))))))))
      rw[hN]
      unfold endE rangeB
      first|(rw[Decidable.not_not.1 c67,decide_eq_false g73,Bool.false_and];rfl)|(have e1:decide (0≤n.lo∧n.lo≤10000)=false:=(by simpa using g80);have e2:decide (0≤n.limit∧n.limit≤2000)=true:=(by simpa using g73);rw[Decidable.not_not.1 c67,e2,e1,Bool.true_and,Bool.false_and];rfl)|simp_all[firstE,unlessE]
     ·
      refine kc (S.bfield fi26_3 (zg rfl rfl) rfl (zt rfl)) (kc (S.bfield fi24_0 (zg rfl rfl) rfl (zt rfl)) (kc (S.bload1 ti3 (zg rfl rfl) rfl (zt rfl) rfl rfl rfl rfl) (kc (S.call (base_Within) Tryz.call35 (zg rfl rfl) rfl (zc rfl (.cons (.cint rfl) (.cons (.cint rfl) .nil))) rfl) (kc (S.notD (zg rfl rfl) rfl (zt rfl)) (kc (S.pickF .none rfl (zt rfl) (zt rfl) rfl) (kc (zm rfl) (RK.splitD (t:=80) rfl (fun g80=>?_) (fun g80=>?_))))))))
      ·
       refine kc (zQ rfl rfl) (kc (zQ rfl rfl) (kc (zQ rfl rfl) (kc (zQ rfl rfl) (kc (zQ rfl rfl) (kc (S.pickT .none rfl (zt rfl) .cbool rfl) (kD (OK.condT rfl rfl rfl (kr (kc (zi rfl rfl) (kc (zi rfl rfl) (kD ?_)))))))))))
       refine OK.ret (Ret.r2 (zo rfl rfl) (zo rfl rfl) ?_)
       rw[hN]
       unfold endE rangeB
       first|(rw[Decidable.not_not.1 c67,decide_eq_false g73,Bool.false_and];rfl)|(have e1:decide (0≤n.lo∧n.lo≤10000)=false:=(by simpa using g80);have e2:decide (0≤n.limit∧n.limit≤2000)=true:=(by simpa using g73);rw[Decidable.not_not.1 c67,e2,e1,Bool.true_and,Bool.false_and];rfl)|simp_all[firstE,unlessE]
      ·
       refine kc (S.bfield fi26_3 (zg rfl rfl) rfl (zt rfl)) (kc (S.bfield fi24_1 (zg rfl rfl) rfl (zt rfl)) (kc (S.bload1 ti3 (zg rfl rfl) rfl (zt rfl) rfl rfl rfl rfl) (kc (S.call (base_Within) Tryz.call35 (zg rfl rfl) rfl (zc rfl (.cons (.cint rfl) (.cons (.cint rfl) .nil))) rfl) (kc (S.notD (zg rfl rfl) rfl (zt rfl)) (kc (S.pickF .none rfl (zt rfl) (zt rfl) rfl) (kD (kB rfl (fun c86=>?_) (fun c86=>?_))))))))
       ·
        refine kr (kc (zi rfl rfl) (kc (zi rfl rfl) (kD (OK.ret (Ret.r2 (zo rfl rfl) (zo rfl rfl) ?_)))))
        rw[hN]
        unfold endE rangeB
        first|(rw[Decidable.not_not.1 c67,decide_eq_false g73,Bool.false_and];rfl)|(have e1:decide (0≤n.lo∧n.lo≤10000)=false:=(by simpa using g80);have e2:decide (0≤n.limit∧n.limit≤2000)=true:=(by simpa using g73);rw[Decidable.not_not.1 c67,e2,e1,Bool.true_and,Bool.false_and];rfl)|simp_all[firstE,unlessE]
       ·
        refine OK.skip (Ab.D.code (kO (kr ?_)))
        refine kc (zf fi26_3 rfl) (kc (zf fi24_0 rfl) (kc (zl ti3 rfl rfl rfl rfl) (kc (zf fi26_3 rfl) (kc (zf fi24_1 rfl) (kc (zl ti3 rfl rfl rfl rfl) (kc (S.gtr .none rfl (zt rfl) (zt rfl)) (kD (kB rfl (fun c93=>?_) (fun c93=>?_)))))))))
        ·
         refine kr (kc (zi rfl rfl) (kc (zi rfl rfl) (kD (OK.ret (Ret.r2 (zo rfl rfl) (zo rfl rfl) ?_)))))
         rw[hN]
         unfold endE rangeB
         first|(rw[Decidable.not_not.1 c67,decide_eq_false g73,Bool.false_and];rfl)|(have e1:decide (0≤n.lo∧n.lo≤10000)=false:=(by simpa using g80);have e2:decide (0≤n.limit∧n.limit≤2000)=true:=(by simpa using g73);rw[Decidable.not_not.1 c67,e2,e1,Bool.true_and,Bool.false_and];rfl)|simp_all[firstE,unlessE]
        ·
         refine OK.skip (kp (kc (zi rfl rfl) (kc (zi rfl rfl) (kD (OK.ret (Ret.r2 (zo rfl rfl) (zo rfl rfl) ?_))))))
         rw[hN]
         unfold endE rangeB
         first|(rw[Decidable.not_not.1 c67,decide_eq_false g73,Bool.false_and];rfl)|(have e1:decide (0≤n.lo∧n.lo≤10000)=false:=(by simpa using g80);have e2:decide (0≤n.limit∧n.limit≤2000)=true:=(by simpa using g73);rw[Decidable.not_not.1 c67,e2,e1,Bool.true_and,Bool.false_and];rfl)|simp_all[firstE,unlessE]
end Go.Proofs.YtpbalelbenmmbaaGreatDoor
namespace Go.Proofs.YtpbalelbenmmbaaGreatDoor
open Go.Ab
theorem few_F{n:Net}(h:10<n.people.length∨80<n.plan.length):fewN n=false:=by
 unfold fewN
 rcases h with h|h
 ·rw[decide_eq_false (show¬n.people.length≤10 by omega)];rfl
 ·rw[decide_eq_false (show¬n.plan.length≤80 by omega),Bool.and_false];rfl
theorem few_T{n:Net}(h:n.people.length≤10)(h2:n.plan.length≤80):fewN n=n.people.all fun p=>decide (p.name.length≤20):=by
 unfold fewN
 rw[decide_eq_true h,decide_eq_true h2];rfl
theorem few_drop{n:Net}{i:Nat}(h:i<n.people.length):((n.people.drop i).all fun p:Person=>decide (p.name.length≤20))=(decide (n.people[i].name.length≤20)&&(n.people.drop (i+1)).all fun p:Person=>decide (p.name.length≤20)):=by
 rw[List.drop_eq_getElem_cons h,List.all_cons]
theorem law10_Few{n:Net}:Ct Tryz.prog 8 [.agg n.cs] (.bool (fewN n)):=by
 refine Ct.intro (rs:=[.tmp 2]) Tryz.func8 rfl Tryz.ntmps8 Tryz.results8 rfl rfl rfl fun w h=>?_
 refine kr (RK.c (zB (c:=1) rfl rfl) (kc (zb rfl) (kD (kO (kr ?_)))))
 refine kc (zf fi26_0 rfl) (kc (zl ti22 rfl rfl rfl rfl) (kc (zk si22 rfl) (kc (S.gtr .none rfl (zt rfl) (.cint rfl)) (kc (zm rfl) (RK.splitD (t:=8) rfl (fun g8=>?_) (fun g8=>?_))))))
 ·
  have hT:fewN n=false:=few_F (.inl (by omega))
  refine kc (zQ rfl rfl) (kc (zQ rfl rfl) (kc (zQ rfl rfl) (kc (zQ rfl rfl) (kc (S.pickT .none rfl (zt rfl) .cbool rfl) (kD (OK.condT rfl rfl rfl (kr (kc (zb rfl) (kD (OK.ret (Ret.r1 (zo rfl rfl) ?_)))))))))))
  rw[hT]
  try rfl
 ·
  refine kc (S.bfield fi26_1 (zg rfl rfl) rfl (zt rfl)) (kc (S.bload1 ti9 (zg rfl rfl) rfl (zt rfl) rfl rfl rfl rfl) (kc (S.slen Tryz.underlying9 (zg rfl rfl) rfl (zt rfl)) (kc (S.gtr (zg rfl rfl) rfl (zt rfl) (.cint rfl)) (kc (S.pickF .none rfl (zt rfl) (zt rfl) rfl) (kD (kB rfl (fun c13=>?_) (fun c13=>?_)))))))
  ·
   have hT:fewN n=false:=few_F (.inr (by omega))
   refine kr (kc (zb rfl) (kD (OK.ret (Ret.r1 (zo rfl rfl) ?_))))
   rw[hT]
   try rfl
  ·
   have hf0:=few_T (n:=n) (by omega) (by omega)
   refine OK.skip (Ab.D.code (kO (kr ?_)))
   refine kc (zi rfl rfl) (kD (OK.block (OK.loop (G:=Nat) [1] (fun i=>[(1,.ptr 1 0),(1001,.box n.cs),(3,.int .i64 i)]) (fun i=>i≤n.people.length∧fewN n=((n.people.drop i).all fun p:Person=>decide (p.name.length≤20))) (fun i=>n.people.length - i) 0 ⟨Nat.zero_le _,hf0⟩ ⟨rfl,rfl,rfl,trivial⟩ (fun _=>rfl) ?_)))
   rintro i ⟨hi,hg⟩
   refine OK.seq (kr ?_)
   refine kc (zm rfl) (kc (zf fi26_0 rfl) (kc (zl ti22 rfl rfl rfl rfl) (kc (zk si22 rfl) (kc (S.lss .none rfl (zt rfl) (zt rfl)) (kD (kB rfl (fun c18=>?_) (fun c18=>?_)))))))
   ·
    have hil:i<n.people.length:=by omega
    refine OK.skip (Ab.D.code (kO (OK.block (kr (kc (zf fi26_0 rfl) (kc (zl ti22 rfl rfl rfl rfl) (kc (zm rfl) (kc (S.indexM (n:=i) si22 .none rfl (zt rfl) (zt rfl) rfl (by omega) rfl) (kc (S.field fi102_0 .none rfl (zt rfl) rfl) (kc (zV ti9 rfl rfl) (kc (S.slen Tryz.underlying9 .none rfl (zt rfl)) ?_)))))))))))
    refine kc (S.gtr .none rfl (zt rfl) (.cint rfl)) (kD (kB rfl (fun c28=>?_) (fun c28=>?_)))
    ·
     have hT:fewN n=false:=by rw[hg,few_drop hil,decide_eq_false (show¬n.people[i].name.length≤20 by omega),Bool.false_and]
     refine kr (kc (zb rfl) (kD (OK.ret (Ret.r1 (zo rfl rfl) ?_))))
     rw[hT]
     try rfl
    ·
     refine OK.skip (Ab.D.blk (Ab.D.code (OK.reg ?_)))
     refine kc (zm rfl) (kc (zp rfl rfl (by omega)) (kc (za rfl) (RK.nil (Ab.D.lp ⟨i+1,⟨by omega,by rw[hg,few_drop hil,decide_eq_true (show n.people[i].name.length≤20 by omega),Bool.true_and]⟩,(by omega),rfl,rfl,rfl,trivial⟩))))
   ·
    have hT:fewN n=true:=by rw[hg,show i=n.people.length by omega,List.drop_length];rfl
    refine OK.exit rfl (kp (kc (zb rfl) (kD (OK.ret (Ret.r1 (zo rfl rfl) ?_)))))
    rw[hT]
    try rfl
theorem ref10_CopyNet{n:Net}(hl:n.people.length≤100000):Ct Tryz.prog 10 [.agg n.cs] (.agg n.cs):=by
 refine Ct.intro (rs:=[.cell 2 26]) Tryz.func10 rfl Tryz.ntmps10 Tryz.results10 rfl rfl rfl fun w h=>?_
 refine kr (RK.c (zB (c:=1) rfl rfl) (RK.c (zA (c:=2) ze26 rfl) (kD (kO ?_))))
 refine OK.regionDraw follows (.c (S.mkSlice (k:=3) (rows:=[]) ai22 .none rfl .nil rfl rfl rfl rfl rfl rfl rfl) (.c (zf fi26_0 rfl) (.c (zl ti22 rfl rfl rfl rfl) (.c (S.appendSl ai22 .none rfl (zt rfl) rfl (by first|rfl|(simp;done)|(simp;omega)) (zt rfl) (by intro q hq;obtain⟨p,_,rfl⟩:=List.mem_map.1 hq;rfl) (by first|rfl|(simp;done)|(simp;omega)) (by simp only[List.length_map];omega) (by simp only[List.length_map,maxLen];omega)) (.c (zf fi26_1 rfl) (.c (zl ti9 rfl rfl rfl rfl) (.c (zf fi26_2 rfl) (.c (zl ti3 rfl rfl rfl rfl) (.c (zf fi26_3 rfl) (.c (zL ti24 rfl rfl rfl rfl) (.c (S.build bu26 rfl .none rfl (zc rfl (zc rfl (zc rfl (zc rfl .nil)))) rfl rfl) (.c (zS ti26 rfl rfl rfl rfl rfl rfl) .nil)))))))))))) (by kernel_rfl) ?_
 refine Ab.D.code ?_
 refine OK.ret (Ret.r1 (.cellN rfl rfl rfl rfl ti26 rfl (.k (.own rfl rfl (by first|rfl|(simp;done)|(simp;omega))) (.k (.same rfl) (.k (.same rfl) (.k (.same rfl) (.k (.same rfl) .z)))))) ?_)
 rfl
end Go.Proofs.YtpbalelbenmmbaaGreatDoor
