import Derived.Test.YtpbalelbenmmbaaGreatDoorHz
import Derived.Test.YtpbalelbenmmbaaGreatDoorGh
import Derived.Test.YtpbalelbenmmbaaGreatDoorHo
import Derived.Test.YtpbalelbenmmbaaGreatDoorRx
import Derived.Test.YtpbalelbenmmbaaGreatDoorTy
namespace Go.Proofs.YtpbalelbenmmbaaGreatDoor
open Go.Ab
def valF(f:Nat)(p:Ph):Int:=if f=fPow then p.power else if f=fLaw then p.law else if f=fTic then p.ticks else p.kelvin
theorem used_in{k:Int}{x:Fld}(h:x∈usedR k):x.1=fPow∨x.1=fLaw∨x.1=fTic∨x.1=fKel:=by
 unfold usedR at h
 repeat' split at h
 all_goals (simp at h;try (rcases h with rfl|rfl|rfl))<;>(try (rcases h with rfl|rfl))<;>(try subst h)<;>simp
theorem val_ct{f:Nat}(h:f=fPow∨f=fLaw∨f=fTic∨f=fKel)(p:Ph):Ct Tryz.prog f [.agg p.cx] (.int .i64 (valF f p)):=by
 rcases h with rfl|rfl|rfl|rfl
 ·exact rcp_power
 ·exact rcp_law
 ·exact rcp_ticks
 ·exact rcp_kelvin
theorem val_call{f:Nat}(h:f=fPow∨f=fLaw∨f=fTic∨f=fKel):∀args w,(callFunc f args).run Tryz.prog w=.ok (.enter f args) w:=by
 rcases h with rfl|rfl|rfl|rfl
 ·exact Tryz.call360
 ·exact Tryz.call361
 ·exact Tryz.call362
 ·exact Tryz.call363
def rightTo(p:Ph)(i:Nat):Bool:=((usedR p.kind).take i).all fun x=>decide (x.2.1≤valF x.1 p∧valF x.1 p≤x.2.2)
theorem rightTo_succ{p:Ph}{i:Nat}(h:i<(usedR p.kind).length):rightTo p (i+1)=(rightTo p i&&decide ((usedR p.kind)[i].2.1≤valF (usedR p.kind)[i].1 p∧valF (usedR p.kind)[i].1 p≤(usedR p.kind)[i].2.2)):=by
 unfold rightTo
 rw[List.take_succ_eq_append_getElem h,List.all_append]
 simp
theorem used_len(k:Int):(usedR k).length≤3:=by
 unfold usedR
 repeat' split
 all_goals simp
theorem kind_cases{k:Int}(h:0≤k∧k≤5):k=0∨k=1∨k=2∨k=3∨k=4∨k=5:=by omega
theorem right_eq{p:Ph}(h:0≤p.kind∧p.kind≤5):rightTo p (usedR p.kind).length=rightR p:=by
 unfold rightTo rightR
 rw[List.take_length]
 rcases kind_cases h with e|e|e|e|e|e<;>rw[e]<;>simp[usedR,valF,fPow,fLaw,fTic,fKel,Bool.and_assoc]
def rPow(p:Ph):Int:=if p.kind=0∨p.kind=3 then 0 else p.power
def rLaw(p:Ph):Int:=if p.kind=2∨p.kind=4 then 0 else p.law
def rKel(p:Ph):Int:=if p.kind=3∨p.kind=4 then 0 else p.kelvin
def restC(p:Ph):List X:=[.int .i64 p.kind,.int .i64 (rPow p),.int .i64 (rLaw p),.int .i64 0,.int .i64 (rKel p),.sl (p.body.map Ph.cs)]
theorem clean_eq{p:Ph}(h:0≤p.kind∧p.kind≤5):cleanR p=(decide (rPow p=0)&&decide (rLaw p=0)&&decide (rKel p=0)&&(decide (p.kind=5)||decide (p.body.length=0))):=by
 unfold cleanR rPow rLaw rKel
 rcases kind_cases h with e|e|e|e|e|e<;>rw[e]<;>simp[Bool.and_assoc]
theorem lkBz{xs ys:List X}(h:xs=ys):some (X.box xs)=some (X.box ys):=by rw[h]
theorem lkB{a b:Bool}(h:a=b):some (X.bool a)=some (X.bool b):=by rw[h]
def phE1(p:Ph):Int:=firstE [unlessE (cleanR p) 3,unlessE (rightR p) 2]
theorem phaseE_15{m:Nat}{p:Ph}(h:¬(0≤p.kind∧p.kind≤5)):phaseE m p=15:=by
 unfold phaseE
 rw[if_pos h]
theorem phaseE_e{m:Nat}{p:Ph}(h:0≤p.kind∧p.kind≤5)(he:phE1 p≠0):phaseE m p=phE1 p:=by
 unfold phaseE
 unfold phE1 at he⊢
 rw[if_neg (not_not_intro h),if_pos he]
theorem phaseE_0{m:Nat}{p:Ph}(h:0≤p.kind∧p.kind≤5)(he:phE1 p=0)(h5:p.kind≠5):phaseE m p=0:=by
 unfold phE1 at he
 unfold phaseE
 rw[if_neg (not_not_intro h),if_neg (not_not_intro he),if_pos h5]
theorem phaseE_16{p:Ph}(h:0≤p.kind∧p.kind≤5)(he:phE1 p=0)(h5:p.kind=5):phaseE 0 p=16:=by
 unfold phE1 at he
 unfold phaseE
 rw[if_neg (not_not_intro h),if_neg (not_not_intro he),if_neg (not_not_intro h5)]
theorem phaseE_l{m:Nat}{p:Ph}(h:0≤p.kind∧p.kind≤5)(he:phE1 p=0)(h5:p.kind=5):phaseE (m+1) p=(listR (phaseE m) p.body).2:=by
 unfold phE1 at he
 rw[phaseE,if_neg (not_not_intro h),if_neg (not_not_intro he),if_neg (not_not_intro h5)]
def szE(n:Nat):Int:=firstE [unlessE (decide ((n:Int)>0)) 10,unlessE (decide ((n:Int)≤12)) 8]
theorem listR_1{g:Ph→Int}{l:List Ph}(h:szE l.length≠0):listR g l=(0,szE l.length):=by
 unfold szE at h⊢
 unfold listR
 by_cases h1:l.length=0
 ·rw[if_pos h1,h1];rfl
 ·by_cases h2:12<l.length
  ·rw[if_neg h1,if_pos h2,decide_eq_true (show((l.length:Nat):Int)>0 by omega),decide_eq_false (show¬((l.length:Nat):Int)≤12 by omega)];rfl
  ·exfalso
   rw[decide_eq_true (show((l.length:Nat):Int)>0 by omega),decide_eq_true (show((l.length:Nat):Int)≤12 by omega)]at h
   exact h rfl
theorem listR_2{g:Ph→Int}{l:List Ph}(h:szE l.length=0):listR g l=eachGo (fun _ p=>g p) 0 l∧l.length≤12:=by
 unfold szE at h
 unfold listR
 by_cases h1:l.length=0
 ·rw[h1]at h;exact absurd h (by decide)
 ·by_cases h2:12<l.length
  ·exfalso
   rw[decide_eq_true (show((l.length:Nat):Int)>0 by omega),decide_eq_false (show¬((l.length:Nat):Int)≤12 by omega)]at h
   exact absurd h (by decide)
  ·rw[if_neg h1,if_neg h2]
   exact⟨rfl,by omega⟩
theorem rcp_within{n lo hi:Int}:Ct Tryz.prog 354 [.int .i64 n,.int .i64 lo,.int .i64 hi] (.bool (decide (lo≤n∧n≤hi))):=by
 refine Ct.intro (rs:=[.tmp 6]) Tryz.func354 rfl Tryz.ntmps354 Tryz.results354 rfl rfl rfl fun w h=>?_
 refine kr (kc (zb rfl) (kq (kc (zm rfl) (kc (zm rfl) (kc (S.leq .none rfl (zt rfl) (zt rfl)) (kc (zm rfl) (RK.splitD (t:=10) rfl (fun g10=>?_) (fun g10=>?_))))))))
 ·
  refine kc (S.move (zg rfl rfl) rfl (zt rfl)) (kc (S.move (zg rfl rfl) rfl (zt rfl)) (kc (S.leq (zg rfl rfl) rfl (zt rfl) (zt rfl)) (kc (S.pickT .none rfl (zt rfl) (zt rfl) rfl) (kc (za rfl) (kD (OK.ret (Ret.r1 (zo rfl rfl) ?_)))))))
  simp[*]
 ·
  refine kc (zQ rfl rfl) (kc (zQ rfl rfl) (kc (zQ rfl rfl) (kc (S.pickF .none rfl (zt rfl) .cbool rfl) (kc (za rfl) (kD (OK.ret (Ret.r1 (zo rfl rfl) ?_)))))))
  simp[*]
theorem recipe_unless{ok:Bool}{e:Int}:Ct Tryz.prog 296 [.bool ok,.int .i64 e] (.int .i64 (unlessE ok e)):=by
 refine Ct.intro (rs:=[.tmp 4]) Tryz.func296 rfl Tryz.ntmps296 Tryz.results296 rfl rfl rfl fun w h=>?_
 refine kr (kc (zi rfl rfl) (kD (kO (kr ?_))))
 refine kc (zm rfl) (kD (OK.cond rfl rfl (fun c5=>?_) (fun c5=>?_)))
 ·
  refine kr (kc (zi rfl rfl) (kD (OK.ret (Ret.r1 (zo rfl rfl) ?_))))
  simp[unlessE, *]
 ·
  refine OK.skip (kp (kc (zm rfl) (kc (za rfl) (kD (OK.ret (Ret.r1 (zo rfl rfl) ?_))))))
  simp[unlessE, *]
theorem recipe_first{l:List Int}:Ct Tryz.prog 295 [ints l] (.int .i64 (firstE l)):=by
 refine Ct.intro (rs:=[.tmp 2]) Tryz.func295 rfl Tryz.ntmps295 Tryz.results295 rfl rfl rfl fun w h=>?_
 refine OK.slLen (rows:=l.map fun n=>[.int .i64 n]) (t:=0) rfl rfl fun hlen=>?_
 rw[List.length_map]at hlen
 unfold maxLen at hlen
 refine kr (kc (zi rfl rfl) (kD (kO (kr ?_))))
 refine kc (zm rfl) (kc (zk si184 rfl) (kc (S.move .none rfl (.cint rfl)) (kD (OK.block (OK.loop (G:=Nat) [] (fun i=>[(5,ints l),(6,.int .i64 l.length),(7,.int .i64 i)]) (fun i=>i≤l.length∧firstE l=firstE (l.drop i)) (fun i=>l.length - i) 0 ⟨Nat.zero_le _,rfl⟩ ⟨rfl,rfl,rfl,trivial⟩ (fun _=>rfl) ?_)))))
 rintro i ⟨hi,hf⟩
 refine kr (kc (S.lss .none rfl (zt rfl) (zt rfl)) (kD (kO (kB rfl (fun c8=>?_) (fun c8=>?_)))))
 ·
  refine OK.skip (Ab.D.code (kO (OK.block (kr (kc (S.indexM si184 .none rfl (zt rfl) (zt rfl) rfl (by omega) rfl) (kc (zV ti29 rfl rfl) (kc (za rfl) (kq (kc (zm rfl) (kc (zN rfl rfl) (kD ?_)))))))))))
  refine kB rfl (fun c12=>?_) (fun c12=>?_)
  ·
   refine kr (kc (zm rfl) (kc (za rfl) (kD (OK.ret (Ret.r1 (zo rfl rfl) ?_)))))
   rw[hf,firstE_drop (by omega)]
   simp_all
  ·
   refine OK.skip (Ab.D.blk (Ab.D.code (OK.reg ?_)))
   refine kc (zp rfl rfl (by omega)) (kc (zm rfl) (RK.nil (Ab.D.lp ⟨i+1,⟨by omega,?_⟩,(by omega),rfl,rfl,rfl,trivial⟩)))
   rw[hf,firstE_drop (by omega)]
   simp_all
 ·
  refine OK.exit rfl (kp (kc (zi rfl rfl) (kD (OK.ret (Ret.r1 (zo rfl rfl) ?_)))))
  have:i=l.length:=by omega
  subst this
  rw[hf,List.drop_length]
  rfl
set_option maxHeartbeats 2000000 in
theorem rcp_phaseErr0{p:Ph}{m:Nat}(hm:m≤3)(hle:∀m',m=m'+1→∀l:List Ph,Ct Tryz.prog 293 [.sl (l.map Ph.cs),.int .i64 (3 - (m':Int))] (.tup [.int .i64 (listR (phaseE m') l).1,.int .i64 (listR (phaseE m') l).2])):Ct Tryz.prog 337 [.agg p.cx,.int .i64 (3 - (m:Int))] (.int .i64 (phaseE m p)):=by
 refine Ct.intro (rs:=[.tmp 4]) Tryz.func337 rfl Tryz.ntmps337 Tryz.results337 rfl rfl rfl fun w h=>?_
 have hul:=used_len p.kind
 refine kr (RK.c (zB (c:=2) rfl rfl) (kc (zi rfl rfl) (kD (kO (kr ?_)))))
 refine kc (zf fi354_0 rfl) (kc (zl ti3 rfl rfl rfl rfl) (kc (S.call (rcp_within) Tryz.call354 .none rfl (zc rfl (.cons (.cint rfl) (.cons (.cint rfl) .nil))) rfl) (kc (S.notD .none rfl (zt rfl)) (kD (kB rfl (fun c15=>?_) (fun c15=>?_))))))
 ·
  have hk:¬(0≤p.kind∧p.kind≤5):=by simpa using c15
  have hT:=phaseE_15 (m:=m) hk
  refine kr (kc (zi rfl rfl) (kD (OK.ret (Ret.r1 (zo rfl rfl) ?_))))
  rw[hT]
  try first|rfl|exact congrArg (X.int .i64) he0
 ·
  have hk:0≤p.kind∧p.kind≤5:=by simpa using c15
  refine OK.skip (kp (kc (zL ti354 rfl rfl rfl rfl) (RK.c (zA (c:=5) ze354 rfl) (kc (zS ti354 rfl rfl rfl rfl rfl rfl) (kc (zb rfl) (kD (kO (kr ?_))))))))
  refine kc (zf fi354_0 rfl) (kc (zl ti3 rfl rfl rfl rfl) (kc (S.call (rcp_used (k:=p.kind)) Tryz.call355 .none rfl (zc rfl .nil) rfl) (kc (zk si463 rfl) (kc (S.move .none rfl (.cint rfl)) (kD (OK.block (OK.loop (G:=Nat) [2,5] (fun i=>[(1,.int .i64 (3 - (m:Int))),(2,.ptr 2 0),(1002,.box p.cx),(5,.ptr 5 0),(1005,.box p.cx),(6,.bool (rightTo p i)),(19,.sl ((usedR p.kind).map fldC)),(20,.int .i64 ((usedR p.kind).length:Int)),(21,.int .i64 i)]) (fun i=>i≤(usedR p.kind).length) (fun i=>(usedR p.kind).length - i) 0 (Nat.zero_le _) ⟨rfl,rfl,rfl,rfl,rfl,rfl,rfl,(lkI (by simp)),rfl,trivial⟩ (fun _=>rfl) ?_)))))))
  rintro i hi
  refine kr (kc (S.lss .none rfl (zt rfl) (zt rfl)) (kD (kO (kB rfl (fun c22=>?_) (fun c22=>?_)))))
  ·
   have hil:i<(usedR p.kind).length:=by omega
   have hrc:=rightTo_succ hil
   refine OK.skip (Ab.D.code (kO (OK.block (kr (kc (S.indexM (n:=i) si463 .none rfl (zt rfl) (zt rfl) rfl (by omega) rfl) (kc (S.loadN ti467 .none rfl (zt rfl) rfl rfl) (RK.c (zA (c:=8) ze467 rfl) (kc (zS ti467 rfl rfl rfl rfl rfl rfl) (kD ?_)))))))))
   by_cases g26:rightTo p i=true
   ·
    have hrs:=hrc
    rw[g26,Bool.true_and]at hrs
    refine OK.regionDraw follows (.c (zm rfl) (.c (zm rfl) (.c (S.bfield fi467_0 (.yes rfl rfl rfl (by first|exact g26|simpa using g26)) rfl (zt rfl)) (.c (S.bload1 ti465 (.yes rfl rfl rfl (by first|exact g26|simpa using g26)) rfl (zt rfl) rfl rfl rfl rfl) (.c (S.bloadN ti354 (.yes rfl rfl rfl (by first|exact g26|simpa using g26)) rfl (zt rfl) rfl rfl rfl rfl) (.c (S.callRaw (f:=(usedR p.kind)[i].1) (val_ct (used_in (List.getElem_mem hil)) p) (val_call (used_in (List.getElem_mem hil))) (.yes rfl rfl rfl (by first|exact g26|simpa using g26)) rfl (zt rfl) (zc rfl .nil) rfl) (.c (S.bfield fi467_1 (.yes rfl rfl rfl (by first|exact g26|simpa using g26)) rfl (zt rfl)) (.c (S.bload1 ti3 (.yes rfl rfl rfl (by first|exact g26|simpa using g26)) rfl (zt rfl) rfl rfl rfl rfl) (.c (S.bfield fi467_2 (.yes rfl rfl rfl (by first|exact g26|simpa using g26)) rfl (zt rfl)) (.c (S.bload1 ti3 (.yes rfl rfl rfl (by first|exact g26|simpa using g26)) rfl (zt rfl) rfl rfl rfl rfl) (.c (S.call (rcp_within) Tryz.call354 (.yes rfl rfl rfl (by first|exact g26|simpa using g26)) rfl (zc rfl (zc rfl (zc rfl .nil))) rfl) (.c (S.pickT .none rfl (zt rfl) (zt rfl) (by first|exact g26|simpa using g26)) (.c (za rfl) .nil))))))))))))) (by kernel_rfl) ?_
    refine Ab.D.blk (Ab.D.code (OK.reg ?_))
    refine kc (zp rfl rfl (by omega)) (kc (zm rfl) (RK.nil (Ab.D.lp ⟨i+1,(by omega),(by omega),rfl,rfl,rfl,rfl,rfl,(lkB hrs.symm),rfl,rfl,rfl,trivial⟩)))
   ·
    have hrs:=hrc
    rw[show rightTo p i=false by simpa using g26,Bool.false_and]at hrs
    refine OK.regionDraw follows (.c (zm rfl) (.c (zm rfl) (.c (S.skip rfl rfl rfl (by first|exact g26|simpa using g26) rfl) (.c (S.skip rfl rfl rfl (by first|exact g26|simpa using g26) rfl) (.c (S.skip rfl rfl rfl (by first|exact g26|simpa using g26) rfl) (.c (S.skip rfl rfl rfl (by first|exact g26|simpa using g26) rfl) (.c (S.skip rfl rfl rfl (by first|exact g26|simpa using g26) rfl) (.c (S.skip rfl rfl rfl (by first|exact g26|simpa using g26) rfl) (.c (S.skip rfl rfl rfl (by first|exact g26|simpa using g26) rfl) (.c (S.skip rfl rfl rfl (by first|exact g26|simpa using g26) rfl) (.c (S.skip rfl rfl rfl (by first|exact g26|simpa using g26) rfl) (.c (S.pickF .none rfl (zt rfl) .cbool (by first|exact g26|simpa using g26)) (.c (za rfl) .nil))))))))))))) (by kernel_rfl) ?_
    refine Ab.D.blk (Ab.D.code (OK.reg ?_))
    refine kc (zp rfl rfl (by omega)) (kc (zm rfl) (RK.nil (Ab.D.lp ⟨i+1,(by omega),(by omega),rfl,rfl,rfl,rfl,rfl,(lkB hrs.symm),rfl,rfl,rfl,trivial⟩)))
  ·
   have hrr:=right_eq hk
   rw[show i=(usedR p.kind).length by omega,hrr]
   refine OK.exit rfl (Ab.D.code (OK.join (G:=Unit) [2,5] (fun _=>[(1,.int .i64 (3 - (m:Int))),(2,.ptr 2 0),(1002,.box p.cx),(5,.ptr 5 0),(1005,.box (restC p)),(6,.bool (rightR p))]) (fun _=>True) (fun _=>rfl) ?_ ?_))
   ·
    refine kr (kc (zf fi354_0 rfl) (kc (zl ti3 rfl rfl rfl rfl) (kD (OK.block (kr (kc (zE rfl rfl) (kc (za rfl) (kD (kB rfl (fun c41=>?_) (fun c41=>?_))))))))))
    ·
     refine OK.reg (kc (zf fi354_1 rfl) (kc (S.store ti3 .none (zt rfl) (.cint rfl) rfl rfl rfl rfl rfl rfl) (kc (zf fi354_3 rfl) (kc (S.store ti3 .none (zt rfl) (.cint rfl) rfl rfl rfl rfl rfl rfl) (RK.nil (Ab.D.blk ?_))))))
     refine Ab.D.lp ⟨(),trivial,rfl,rfl,rfl,rfl,(lkBz (by unfold restC rPow rLaw rKel Ph.cx;simp[*,cellsX])),rfl,trivial⟩
    ·
     refine kr (kc (zE rfl rfl) (kc (za rfl) (kD (kB rfl (fun c45=>?_) (fun c45=>?_)))))
     ·
      refine OK.reg (kc (zf fi354_2 rfl) (kc (S.store ti3 .none (zt rfl) (.cint rfl) rfl rfl rfl rfl rfl rfl) (kc (zf fi354_3 rfl) (kc (S.store ti3 .none (zt rfl) (.cint rfl) rfl rfl rfl rfl rfl rfl) (RK.nil (Ab.D.blk ?_))))))
      refine Ab.D.lp ⟨(),trivial,rfl,rfl,rfl,rfl,(lkBz (by unfold restC rPow rLaw rKel Ph.cx;simp[*,cellsX])),rfl,trivial⟩
     ·
      refine kr (kc (zE rfl rfl) (kc (za rfl) (kD (kB rfl (fun c49=>?_) (fun c49=>?_)))))
      ·
       refine OK.reg (kc (zf fi354_4 rfl) (kc (S.store ti3 .none (zt rfl) (.cint rfl) rfl rfl rfl rfl rfl rfl) (kc (zf fi354_1 rfl) (kc (S.store ti3 .none (zt rfl) (.cint rfl) rfl rfl rfl rfl rfl rfl) (kc (zf fi354_3 rfl) (kc (S.store ti3 .none (zt rfl) (.cint rfl) rfl rfl rfl rfl rfl rfl) (RK.nil (Ab.D.blk ?_))))))))
       refine Ab.D.lp ⟨(),trivial,rfl,rfl,rfl,rfl,(lkBz (by unfold restC rPow rLaw rKel Ph.cx;simp[*,cellsX])),rfl,trivial⟩
      ·
       refine kr (kc (zE rfl rfl) (kc (za rfl) (kD (kB rfl (fun c54=>?_) (fun c54=>?_)))))
       ·
        refine OK.reg (kc (zf fi354_4 rfl) (kc (S.store ti3 .none (zt rfl) (.cint rfl) rfl rfl rfl rfl rfl rfl) (kc (zf fi354_2 rfl) (kc (S.store ti3 .none (zt rfl) (.cint rfl) rfl rfl rfl rfl rfl rfl) (kc (zf fi354_3 rfl) (kc (S.store ti3 .none (zt rfl) (.cint rfl) rfl rfl rfl rfl rfl rfl) (RK.nil (Ab.D.blk ?_))))))))
        refine Ab.D.lp ⟨(),trivial,rfl,rfl,rfl,rfl,(lkBz (by unfold restC rPow rLaw rKel Ph.cx;simp[*,cellsX])),rfl,trivial⟩
       ·
        refine OK.reg (kc (zf fi354_3 rfl) (kc (S.store ti3 .none (zt rfl) (.cint rfl) rfl rfl rfl rfl rfl rfl) (RK.nil (Ab.D.blk ?_))))
        refine Ab.D.lp ⟨(),trivial,rfl,rfl,rfl,rfl,(lkBz (by unfold restC rPow rLaw rKel Ph.cx;simp[*,cellsX])),rfl,trivial⟩
   ·
    rintro _ _
    refine kr (kc (zf fi354_0 rfl) (kc (zl ti3 rfl rfl rfl rfl) (kc (zE rfl rfl) (kc (za rfl) (kD (OK.join (G:=Unit) [2] (fun _=>[(1,.int .i64 (3 - (m:Int))),(2,.ptr 2 0),(1002,.box p.cx),(6,.bool (rightR p)),(9,.bool (decide (p.kind=5))),(10,.bool (cleanR p))]) (fun _=>True) (fun _=>rfl) ?_ ?_))))))
    ·
     refine OK.reg (kc (zf fi354_1 rfl) (kc (zl ti3 rfl rfl rfl rfl) (kc (zE rfl rfl) (kc (zm rfl) (RK.splitD (t:=65) rfl (fun g65=>?_) (fun g65=>?_))))))
     ·
      refine kc (S.bfield fi354_2 (zg rfl rfl) rfl (zt rfl)) (kc (S.bload1 ti3 (zg rfl rfl) rfl (zt rfl) rfl rfl rfl rfl) (kc (S.eql (zg rfl rfl) rfl (zt rfl) (.cint rfl)) (kc (S.pickT .none rfl (zt rfl) (zt rfl) rfl) (kc (zm rfl) (RK.splitD (t:=70) rfl (fun g70=>?_) (fun g70=>?_))))))
      ·
       refine kc (S.bfield fi354_3 (zg rfl rfl) rfl (zt rfl)) (kc (S.bload1 ti3 (zg rfl rfl) rfl (zt rfl) rfl rfl rfl rfl) (kc (S.eql (zg rfl rfl) rfl (zt rfl) (.cint rfl)) (kc (S.pickT .none rfl (zt rfl) (zt rfl) rfl) (kc (zm rfl) (RK.splitD (t:=75) rfl (fun g75=>?_) (fun g75=>?_))))))
       ·
        refine kc (S.bfield fi354_4 (zg rfl rfl) rfl (zt rfl)) (kc (S.bload1 ti3 (zg rfl rfl) rfl (zt rfl) rfl rfl rfl rfl) (kc (S.eql (zg rfl rfl) rfl (zt rfl) (.cint rfl)) (kc (S.pickT .none rfl (zt rfl) (zt rfl) rfl) (kc (zm rfl) (RK.splitD (t:=80) rfl (fun g80=>?_) (fun g80=>?_))))))
        ·
         refine kc (S.move (zg rfl rfl) rfl (zt rfl)) (kc (S.move (zg rfl rfl) rfl (zt rfl)) (RK.splitD (t:=82) rfl (fun g82=>?_) (fun g82=>?_)))
         ·
          refine kc (zQ rfl rfl) (kc (zQ rfl rfl) (kc (zQ rfl rfl) (kc (zQ rfl rfl) (kc (S.pickT (zg rfl rfl) rfl (zt rfl) .cbool rfl) (kc (S.pickT .none rfl (zt rfl) (zt rfl) rfl) (kc (za rfl) (RK.nil ?_)))))))
          refine Ab.D.lp ⟨(),trivial,rfl,rfl,rfl,rfl,rfl,(lkB (by rw[clean_eq hk];simp[*])),trivial⟩
         ·
          refine kc (S.bfield fi354_5 (zg rfl rfl) rfl (zt rfl)) (kc (S.bload1 ti131 (zg rfl rfl) rfl (zt rfl) rfl rfl rfl rfl) (kc (S.lenM si131 (zg rfl rfl) rfl (zt rfl)) (kc (S.eql (zg rfl rfl) rfl (zt rfl) (.cint rfl)) (kc (S.pickF (zg rfl rfl) rfl (zt rfl) (zt rfl) rfl) (kc (S.pickT .none rfl (zt rfl) (zt rfl) rfl) (kc (za rfl) (RK.nil ?_)))))))
          refine Ab.D.lp ⟨(),trivial,rfl,rfl,rfl,rfl,rfl,(lkB (by rw[clean_eq hk];simp[*])),trivial⟩
        ·
         refine kc (zQ rfl rfl) (kc (zQ rfl rfl) (kc (zu rfl) (kc (zu rfl) (kc (zu rfl) (kc (zu rfl) (kc (zQ rfl rfl) (kc (S.pickF .none rfl (zt rfl) .cbool rfl) (kc (za rfl) (RK.nil ?_)))))))))
         refine Ab.D.lp ⟨(),trivial,rfl,rfl,rfl,rfl,rfl,(lkB (by rw[clean_eq hk];simp[*])),trivial⟩
       ·
        exact absurd rfl g75
      ·
       refine kc (zQ rfl rfl) (kc (zQ rfl rfl) (kc (zQ rfl rfl) (kc (S.pickF .none rfl (zt rfl) .cbool rfl) (kc (zm rfl) (kc (zQ rfl rfl) (kc (zQ rfl rfl) (kc (zQ rfl rfl) (kc (S.pickF .none rfl (zt rfl) .cbool rfl) (kc (zm rfl) (kc (zQ rfl rfl) (kc (zQ rfl rfl) ?_)))))))))))
       refine kc (zu rfl) (kc (zu rfl) (kc (zu rfl) (kc (zu rfl) (kc (zQ rfl rfl) (kc (S.pickF .none rfl (zt rfl) .cbool rfl) (kc (za rfl) (RK.nil ?_)))))))
       refine Ab.D.lp ⟨(),trivial,rfl,rfl,rfl,rfl,rfl,(lkB (by rw[clean_eq hk];simp[*])),trivial⟩
     ·
      refine kc (zQ rfl rfl) (kc (zQ rfl rfl) (kc (zQ rfl rfl) (kc (S.pickF .none rfl (zt rfl) .cbool rfl) (kc (zm rfl) (kc (zQ rfl rfl) (kc (zQ rfl rfl) (kc (zQ rfl rfl) (kc (S.pickF .none rfl (zt rfl) .cbool rfl) (kc (zm rfl) (kc (zQ rfl rfl) (kc (zQ rfl rfl) ?_)))))))))))
      refine kc (zQ rfl rfl) (kc (S.pickF .none rfl (zt rfl) .cbool rfl) (kc (zm rfl) (kc (zQ rfl rfl) (kc (zQ rfl rfl) (kc (zu rfl) (kc (zu rfl) (kc (zu rfl) (kc (zu rfl) (kc (zQ rfl rfl) (kc (S.pickF .none rfl (zt rfl) .cbool rfl) (kc (za rfl) ?_)))))))))))
      refine RK.nil ?_
      refine Ab.D.lp ⟨(),trivial,rfl,rfl,rfl,rfl,rfl,(lkB (by rw[clean_eq hk];simp[*])),trivial⟩
    ·
     rintro _ _
     refine kr (kc (zm rfl) (kc (S.call (recipe_unless) Tryz.call296 .none rfl (zc rfl (.cons (.cint rfl) .nil)) rfl) (kc (zm rfl) (kc (S.call (recipe_unless) Tryz.call296 .none rfl (zc rfl (.cons (.cint rfl) .nil)) rfl) (RK.c (S.mkSlice (k:=93) (rows:=[[_],[_]]) ai184 .none rfl (zc rfl (zc rfl .nil)) rfl rfl rfl rfl rfl rfl rfl) (kc (S.callL (recipe_first (l:=[_,_])) Tryz.call295 .none rfl (zc rfl .nil) (.cons (.p (.own rfl rfl) rfl) .nil) rfl) (kc (za rfl) (kD (kO (kr ?_))))))))))
     refine kc (zm rfl) (kc (zN rfl rfl) (kc (zm rfl) (RK.splitD (t:=97) rfl (fun g97=>?_) (fun g97=>?_))))
     ·
      have hT:=phaseE_e (m:=m) hk g97
      refine kc (zQ rfl rfl) (kc (zQ rfl rfl) (kc (S.pickT .none rfl (zt rfl) .cbool rfl) (kD (OK.condT rfl rfl rfl (kr (kc (zm rfl) (kc (za rfl) (kD (OK.ret (Ret.r1 (zo rfl rfl) ?_))))))))))
      rw[hT]
      try first|rfl|exact congrArg (X.int .i64) he0
     ·
      have he0:phE1 p=0:=Decidable.not_not.1 g97
      refine kc (S.move (zg rfl rfl) rfl (zt rfl)) (kc (S.notD (zg rfl rfl) rfl (zt rfl)) (kc (S.pickF .none rfl (zt rfl) (zt rfl) rfl) (kD (kB rfl (fun c100=>?_) (fun c100=>?_)))))
      ·
       have h5:p.kind≠5:=by simpa using c100
       have hT:=phaseE_0 (m:=m) hk he0 h5
       refine kr (kc (zm rfl) (kc (za rfl) (kD (OK.ret (Ret.r1 (zo rfl rfl) ?_)))))
       rw[hT]
       try first|rfl|exact congrArg (X.int .i64) he0
      ·
       have h5:p.kind=5:=by simpa using c100
       refine OK.skip (Ab.D.code (kO (kr ?_)))
       refine kc (zm rfl) (kc (zE rfl rfl) (kD (kB rfl (fun c103=>?_) (fun c103=>?_))))
       ·
        have hm0:m=0:=by omega
        subst hm0
        have hT:=phaseE_16 hk he0 h5
        refine kr (kc (zi rfl rfl) (kD (OK.ret (Ret.r1 (zo rfl rfl) ?_))))
        rw[hT]
        try first|rfl|exact congrArg (X.int .i64) he0
       ·
        obtain⟨m',rfl⟩:∃m',m=m'+1:=⟨m - 1,by omega⟩
        have hT:=phaseE_l (m:=m') hk he0 h5
        refine OK.skip (kp (kc (zf fi354_5 rfl) (kc (zl ti131 rfl rfl rfl rfl) (kc (zm rfl) (kc (zp rfl rfl (by omega)) ?_)))))
        refine kc (S.call ((by have:=hle m' rfl p.body;rw[show(3 - (m':Int))=3 - ((m'+1:Nat):Int)+1 by omega]at this;exact this)) Tryz.call293 .none rfl (zc rfl (zc rfl .nil)) rfl) ?_
        refine kc (zm rfl) (kc (zX rfl rfl rfl) (kc (zX rfl rfl rfl) (kc (za rfl) (kq (kc (zm rfl) (kc (za rfl) (kD (OK.ret (Ret.r1 (zo rfl rfl) ?_)))))))))
        rw[hT]
        try first|rfl|exact congrArg (X.int .i64) he0
set_option maxHeartbeats 1000000 in
theorem rcp_listErr0{l:List Ph}{m:Nat}(hm:m≤3)(hp:∀p:Ph,Ct Tryz.prog 337 [.agg p.cx,.int .i64 (3 - (m:Int))] (.int .i64 (phaseE m p))):Ct Tryz.prog 293 [.sl (l.map Ph.cs),.int .i64 (3 - (m:Int))] (.tup [.int .i64 (listR (phaseE m) l).1,.int .i64 (listR (phaseE m) l).2]):=by
 refine Ct.intro (rs:=[.tmp 4,.tmp 5]) Tryz.func293 rfl Tryz.ntmps293 Tryz.results293 rfl rfl rfl fun w h=>?_
 rw[cs_cx l]
 refine OK.slLen (rows:=l.map Ph.cx) (t:=0) rfl rfl fun hlen=>?_
 rw[List.length_map]at hlen
 unfold maxLen at hlen
 refine kr (kc (zi rfl rfl) (kc (zi rfl rfl) (kD (kO (kr ?_)))))
 refine kc (zm rfl) (kc (zk si131 rfl) (kc (S.gtr .none rfl (zt rfl) (.cint rfl)) (kc (S.call (recipe_unless) Tryz.call296 .none rfl (zc rfl (.cons (.cint rfl) .nil)) rfl) (kc (zm rfl) (kc (zk si131 rfl) (kc (S.leq .none rfl (zt rfl) (.cint rfl)) (kc (S.call (recipe_unless) Tryz.call296 .none rfl (zc rfl (.cons (.cint rfl) .nil)) rfl) (RK.c (S.mkSlice (k:=18) (rows:=[[_],[_]]) ai184 .none rfl (zc rfl (zc rfl .nil)) rfl rfl rfl rfl rfl rfl rfl) (kc (S.callL (recipe_first (l:=[_,_])) Tryz.call295 .none rfl (zc rfl .nil) (.cons (.p (.own rfl rfl) rfl) .nil) rfl) (kc (za rfl) (kq ?_)))))))))))
 refine kc (zm rfl) (kc (zN rfl rfl) (kD (kB rfl (fun c21=>?_) (fun c21=>?_))))
 ·
  have hT:listR (phaseE m) l=(0,szE l.length):=listR_1 c21
  refine kr (kc (zm rfl) (kc (zi rfl rfl) (kc (za rfl) (kD (OK.ret (Ret.r2 (zo rfl rfl) (zo rfl rfl) ?_))))))
  rw[hT]
  try first|rfl|simp[szE]
 ·
  have hL:=listR_2 (g:=phaseE m) (l:=l) (Decidable.not_not.1 c21)
  refine OK.skip (Ab.D.code (kO (kr ?_)))
  refine kc (zm rfl) (kc (zk si131 rfl) (kc (S.move .none rfl (.cint rfl)) (kD (OK.block (OK.loop (G:=Nat) [] (fun i=>[(1,.int .i64 (3 - (m:Int))),(23,.sl (l.map Ph.cx)),(24,.int .i64 (l.length:Int)),(25,.int .i64 i)]) (fun i=>i≤l.length∧listR (phaseE m) l=eachGo (fun _ p=>phaseE m p) i (l.drop i)) (fun i=>l.length - i) 0 ⟨Nat.zero_le _,hL.1⟩ ⟨rfl,rfl,rfl,rfl,trivial⟩ (fun _=>rfl) ?_)))))
  rintro i ⟨hi,hg⟩
  refine kr (kc (S.lss .none rfl (zt rfl) (zt rfl)) (kD (kO (kB rfl (fun c26=>?_) (fun c26=>?_)))))
  ·
   have hil:i<l.length:=by omega
   refine OK.skip (Ab.D.code (kO (OK.block (kr (kc (zm rfl) (kc (S.indexM (n:=i) si131 .none rfl (zt rfl) (zt rfl) rfl (by omega) rfl) (kc (S.loadN ti354 .none rfl (zt rfl) rfl rfl) (RK.c (zA (c:=8) ze354 rfl) (kc (za rfl) (kc (zS ti354 rfl rfl rfl rfl rfl rfl) (kq ?_)))))))))))
   refine kc (zL ti354 rfl rfl rfl rfl) (kc (zm rfl) (kc (S.call (hp l[i]) Tryz.call337 .none rfl (zc rfl (zc rfl .nil)) rfl) (kc (za rfl) (kq (kc (zm rfl) (kc (zN rfl rfl) (kD (kB rfl (fun c34=>?_) (fun c34=>?_)))))))))
   ·
    have hT:listR (phaseE m) l=((i:Int),phaseE m l[i]):=by rw[hg,eachGo_drop _ hil,if_pos c34]
    refine kr (kc (zm rfl) (kc (zm rfl) (kc (za rfl) (kc (za rfl) (kD (OK.ret (Ret.r2 (zo rfl rfl) (zo rfl rfl) ?_)))))))
    rw[hT]
    try first|rfl|simp[szE]
   ·
    have he:phaseE m l[i]=0:=Decidable.not_not.1 c34
    refine OK.skip (Ab.D.blk (Ab.D.code (OK.reg ?_)))
    refine kc (zp rfl rfl (by omega)) (kc (zm rfl) (RK.nil ?_))
    refine Ab.D.lp ⟨i+1,⟨by omega,by rw[hg,eachGo_drop _ hil,if_neg (by rw[he];decide)]⟩,(by omega),rfl,rfl,rfl,rfl,trivial⟩
  ·
   have hT:listR (phaseE m) l=(0,0):=by rw[hg,show i=l.length by omega,List.drop_length];rfl
   refine OK.exit rfl (kp (kc (zi rfl rfl) (kc (zi rfl rfl) (kD (OK.ret (Ret.r2 (zo rfl rfl) (zo rfl rfl) ?_))))))
   rw[hT]
   try first|rfl|simp[szE]
theorem rcp_errs(m:Nat)(hm:m≤3):(∀p:Ph,Ct Tryz.prog 337 [.agg p.cx,.int .i64 (3 - (m:Int))] (.int .i64 (phaseE m p)))∧∀l:List Ph,Ct Tryz.prog 293 [.sl (l.map Ph.cs),.int .i64 (3 - (m:Int))] (.tup [.int .i64 (listR (phaseE m) l).1,.int .i64 (listR (phaseE m) l).2]):=by
 induction m with
 |zero=>
  have h1:∀p:Ph,Ct Tryz.prog 337 [.agg p.cx,.int .i64 (3 - ((0:Nat):Int))] (.int .i64 (phaseE 0 p)):=fun p=>rcp_phaseErr0 hm fun m' e=>by omega
  exact⟨h1,fun l=>rcp_listErr0 hm h1⟩
 |succ m ih=>
  obtain⟨_,i2⟩:=ih (by omega)
  have h1:∀p:Ph,Ct Tryz.prog 337 [.agg p.cx,.int .i64 (3 - ((m+1:Nat):Int))] (.int .i64 (phaseE (m+1) p)):=fun p=>rcp_phaseErr0 hm fun m' e=>by
   have:m'=m:=by omega
   subst this
   exact i2
  exact⟨h1,fun l=>rcp_listErr0 hm h1⟩
theorem rcp_listErr{l:List Ph}:Ct Tryz.prog 293 [.sl (l.map Ph.cs),.int .i64 0] (.tup [.int .i64 (listR (phaseE 3) l).1,.int .i64 (listR (phaseE 3) l).2]):=(rcp_errs 3 (Nat.le_refl _)).2 l
end Go.Proofs.YtpbalelbenmmbaaGreatDoor
