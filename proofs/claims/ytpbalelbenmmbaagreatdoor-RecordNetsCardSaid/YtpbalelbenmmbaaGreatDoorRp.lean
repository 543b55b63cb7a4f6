import Derived.Test.YtpbalelbenmmbaaGreatDoorHz
import Derived.Test.YtpbalelbenmmbaaGreatDoorGh
import Derived.Test.YtpbalelbenmmbaaGreatDoorHj
import Derived.Test.YtpbalelbenmmbaaGreatDoorMe
import Derived.Test.YtpbalelbenmmbaaGreatDoorRs
import Derived.Test.YtpbalelbenmmbaaGreatDoorTy
namespace Go.Proofs.YtpbalelbenmmbaaGreatDoor
open Go.Ab
def personE(l:List Person)(i:Nat)(p:Person):Int:=firstE [unlessE (nameOk p.name) 4,unlessE (decide (¬(p.name∈(l.take i).map Person.name))) 5,unlessE (decide (0≤p.role∧p.role≤4)) 15]
def sizeE(n:Net):Int:=firstE [unlessE (decide ((n.people.length:Int)>0)) 10,unlessE (decide ((n.people.length:Int)≤8)) 8]
def rangeB(n:Net):Bool:=decide (0≤n.limit∧n.limit≤2000)&&(decide (0≤n.lo∧n.lo≤10000)&&decide (0≤n.hi∧n.hi≤10000))
def endE(n:Net):Int:=firstE [(parseP n.plan).2,unlessE (rangeB n) 2,unlessE (decide (n.lo≤n.hi)) 9]
theorem size_le{n:Net}(h:sizeE n=0):(n.people.length:Int)≤8:=by
 unfold sizeE at h
 by_cases h2:(n.people.length:Int)≤8
 ·exact h2
 ·exfalso
  rw[decide_eq_false h2]at h
  cases hd:decide ((n.people.length:Int)>0)<;>rw[hd]at h<;>exact absurd h (by decide)
def netT(n:Net):Int×Int:=if sizeE n≠0 then(0,sizeE n)else if(eachGo (personE n.people) 0 n.people).2≠0 then eachGo (personE n.people) 0 n.people else(0,endE n)
def Net.zero:Net:=⟨[],[],0,0,0⟩
def shopT(n:Net):Net×Plan:=if sizeE n≠0∨(eachGo (personE n.people) 0 n.people).2≠0 then(Net.zero,⟨[],0⟩)else(n,(parseP n.plan).1)
theorem netT_1{n:Net}(h:sizeE n≠0):netT n=(0,sizeE n)∧shopT n=(Net.zero,⟨[],0⟩):=by unfold netT shopT;rw[if_pos h,if_pos (.inl h)];exact⟨rfl,rfl⟩
theorem netT_2{n:Net}(h:sizeE n=0)(h2:(eachGo (personE n.people) 0 n.people).2≠0):netT n=eachGo (personE n.people) 0 n.people∧shopT n=(Net.zero,⟨[],0⟩):=by unfold netT shopT;rw[if_neg (by rw[h];decide),if_pos h2,if_pos (.inr h2)];exact⟨rfl,rfl⟩
theorem netT_3{n:Net}(h:sizeE n=0)(h2:(eachGo (personE n.people) 0 n.people).2=0):netT n=(0,endE n)∧shopT n=(n,(parseP n.plan).1):=by
 unfold netT shopT
 rw[if_neg (by rw[h];decide),if_neg (by rw[h2];decide),if_neg (by rintro(h3|h3);exact h3 h;exact h3 h2)]
 exact⟨rfl,rfl⟩
theorem netT_0{n:Net}(h:(netT n).2=0):shopT n=(n,(parseP n.plan).1)∧(parseP n.plan).2=0:=by
 by_cases h1:sizeE n=0
 ·by_cases h2:(eachGo (personE n.people) 0 n.people).2=0
  ·obtain⟨e1,e2⟩:=netT_3 h1 h2
   rw[e1]at h
   refine⟨e2,?_⟩
   have h':endE n=0:=h
   unfold endE at h'
   rw[firstE]at h'
   by_cases h3:(parseP n.plan).2=0
   ·exact h3
   ·rw[if_pos h3]at h';exact h'
  ·rw[(netT_2 h1 h2).1]at h;exact absurd h h2
 ·rw[(netT_1 h1).1]at h;exact absurd h h1
theorem netT_end{n:Net}(h:(netT n).2=0):endE n=0:=by
 by_cases h1:sizeE n=0
 ·by_cases h2:(eachGo (personE n.people) 0 n.people).2=0
  ·rw[(netT_3 h1 h2).1]at h;exact h
  ·rw[(netT_2 h1 h2).1]at h;exact absurd h h2
 ·rw[(netT_1 h1).1]at h;exact absurd h h1
theorem netT_B{n:Net}(h:(netT n).2=0):CaseB n:=by
 have h1:=netT_end h
 have hp:=(netT_0 h).2
 unfold endE at h1
 rw[hp,firstE,if_neg (by decide)]at h1
 cases hr:rangeB n with
 |false=>rw[hr]at h1;exact absurd h1 (by simp[firstE,unlessE])
 |true=>
  unfold rangeB at hr
  rw[Bool.and_eq_true,Bool.and_eq_true]at hr
  exact⟨of_decide_eq_true hr.2.1,of_decide_eq_true hr.2.2⟩
theorem parseP_plan{l:List UInt8}(h:(parseP l).2=0):planErr (parseP l).1=0:=by
 unfold parseP at h⊢
 split
 ·rename_i h1
  rw[if_pos h1]at h
  split
  ·rename_i h2
   rw[if_pos h2]at h
   exact absurd h h2
  ·rename_i h2
   exact Decidable.not_not.1 h2
 ·rename_i h1
  rw[if_neg h1]at h
  exact absurd h (by decide)
theorem take_names{l:List Person}{i:Nat}(h:i<l.length):(l.take (i+1)).map Person.name=(l.take i).map Person.name++[l[i].name]:=by rw[List.take_succ_eq_append_getElem h,List.map_append];rfl
def House.init(n:Net)(p:Plan):House:=⟨n,p,[],[],[],[],⟨0,0,[]⟩,false,0,0⟩
def HA.init(b:Nat)(n:Net)(p:Plan):HA:=⟨b,n,p,none,[],none,[],none,[],none,[],⟨0,0,[]⟩,false,0,0⟩
theorem HA.init_mem(b:Nat)(n:Net)(p:Plan):(HM.set (fun _:Key=>none) .house (some (b,.box (HA.init b n p).cs)))=(HA.init b n p).mem:=by
 funext k
 cases k with
 |house=>exact HM.set_same _ _ _
 |v i=>rw[HM.set_other _ _ (fun h=>by cases h)];rfl
 |c i=>rw[HM.set_other _ _ (fun h=>by cases h)];rfl
 |p i=>rw[HM.set_other _ _ (fun h=>by cases h)];rfl
 |f i=>rw[HM.set_other _ _ (fun h=>by cases h)];rfl
 |e i=>rw[HM.set_other _ _ (fun h=>by cases h)];rfl
 |_=>rw[HM.set_other _ _ (fun h=>by cases h)];rfl
theorem HA.init_ok(b:Nat)(n:Net)(p:Plan):(HA.init b n p).Ok 0:=
 ⟨fun _=>rfl,fun _=>rfl,fun _=>rfl,fun _=>rfl,(fun v h=>by cases h),(fun v h=>by cases h),by decide,(by show(0:Int)≤0∧(0:Int)≤60;decide),Int.le_refl _,Int.le_refl _,Int.le_refl _,Int.le_refl _,(fun v h=>by cases h),(fun v h=>by cases h),(fun v h=>by cases h),(fun v h=>by cases h),(fun v h=>by cases h),(fun v h=>by cases h),(fun v h=>by cases h),(fun v h=>by cases h),(fun v h=>by cases h)⟩
def runT:House→Nat→List Entry→House×Int×Int
 |H,_,[]=>(H,0,0)
 |H,i,x::l=>if(enterT H x).2≠0 then((enterT H x).1,(i:Int),(enterT H x).2)else runT (enterT H x).1 (i+1) l
def logE(n:Net)(l:List Entry):Int:=firstE [(netT n).2,unlessE (decide ((l.length:Int)≤60)) 8]
def replayT(n:Net)(l:List Entry):House×Int×Int:=if logE n l≠0 then(House.init n (parseP n.plan).1,0,logE n l)else runT (House.init n (parseP n.plan).1) 0 l
theorem logE_0{n:Net}{l:List Entry}(h:logE n l=0):(netT n).2=0∧(l.length:Int)≤60:=by
 unfold logE at h
 rw[firstE]at h
 by_cases h1:(netT n).2=0
 ·rw[if_neg (by rw[h1];decide),firstE]at h
  refine⟨h1,?_⟩
  by_cases h2:(l.length:Int)≤60
  ·exact h2
  ·rw[decide_eq_false h2]at h;exact absurd h (by decide)
 ·rw[if_pos h1]at h;exact absurd h h1
theorem runT_drop{H:House}{l:List Entry}{i:Nat}(h:i<l.length):runT H i (l.drop i)=if(enterT H l[i]).2≠0 then((enterT H l[i]).1,(i:Int),(enterT H l[i]).2)else runT (enterT H l[i]).1 (i+1) (l.drop (i+1)):=by
 rw[List.drop_eq_getElem_cons h,runT]
theorem enterT_plan(H:House)(x:Entry):(enterT H x).1.plan=H.plan∧(enterT H x).1.net=H.net:=by
 have ha:∀(n:Int)(f:House→Nat→HE),(∀i,(f H i).1.plan=H.plan∧(f H i).1.net=H.net)→(aboutT H n f).1.plan=H.plan∧(aboutT H n f).1.net=H.net:=fun n f hf=>by
  unfold aboutT
  split
  ·exact⟨rfl,rfl⟩
  ·rename_i i _
   split
   ·exact hf i
   ·exact hf i
 have he:∀k L,(effT k H L).1.plan=H.plan∧(effT k H L).1.net=H.net:=by
  intro k L
  unfold effT
  split
  ·exact⟨rfl,rfl⟩
  ·unfold startT;dsimp only;repeat' split
   all_goals exact⟨rfl,rfl⟩
  ·unfold frameT;repeat' split
   all_goals exact⟨rfl,rfl⟩
  ·unfold endT;split<;>exact⟨rfl,rfl⟩
  ·exact ha _ _ fun i=>by unfold goodT;split<;>exact⟨rfl,rfl⟩
  ·exact ha _ _ fun i=>by unfold badT;split<;>exact⟨rfl,rfl⟩
  ·unfold coilT;dsimp only;split<;>exact⟨rfl,rfl⟩
  ·unfold repairT;repeat' split
   all_goals exact⟨rfl,rfl⟩
  ·exact ha _ _ fun i=>by unfold markT;split<;>exact⟨rfl,rfl⟩
  ·refine ha _ _ fun i=>?_
   unfold sectT
   dsimp only
   repeat' split
   all_goals exact⟨rfl,rfl⟩
  ·unfold recipeT;dsimp only;repeat' split
   all_goals exact⟨rfl,rfl⟩
  ·exact ha _ _ fun i=>by unfold modelT;dsimp only;split<;>exact⟨rfl,rfl⟩
  ·unfold learnT;split<;>exact⟨rfl,rfl⟩
 unfold enterT
 split
 ·exact⟨rfl,rfl⟩
 ·split
  ·dsimp only
   split
   ·exact⟨rfl,rfl⟩
   ·split
    ·exact he _ _
    ·exact he _ _
  ·exact⟨rfl,rfl⟩
def retP(e:Int)(b:Nat):Value:=if e=0 then pV b else .pointer none
theorem retP_n{e:Int}{b:Nat}(h:e≠0):retP e b=.pointer none:=if_neg h
theorem retP_0{e:Int}{b:Nat}(h:e=0):retP e b=pV b:=if_pos h
def EffIn(l:List Entry):Prop:=∀x∈l,x.text.length≤100000∧∀k,verbIx (cutC 32 x.text).1=some k→EffOk k
def JLA(e:Int)(H:House)(A:HA):Mem→(Nat→Prop)→World→Prop:=fun h Y w=>e=0→(A.Ok 400∧A.plain=H)∧HeapJ A.mem h Y w
theorem JLA.stable(e:Int)(H:House)(A:HA):Stable (JLA e H A):=fun h h' Y w w' hj a1 a2 a3 a4 a5 he=>⟨(hj he).1,HeapJ.stable A.mem _ _ _ _ _ (hj he).2 a1 a2 a3 a4 a5⟩
theorem JLA.mono{e:Int}{H:House}{A:HA}:∀h Y Y' w,JLA e H A h Y w→(∀b,Y b→Y' b)→JLA e H A h Y' w:=fun _ _ _ _ hj hY he=>⟨(hj he).1,(hj he).2.mono hY⟩
theorem OK.resJLA{E:Env}{U:List Nat}{s:St}{code:Code}{Q:Exit→List Nat→St→Prop}{e:Int}{H:House}{A:HA}(he:e=0)(hl:Ab.look s 3000=some (.res (JLA e H A)))(h:A.Ok 400→A.plain=H→OK E code Q U ((3000,.res (HeapJ A.mem))::s)):OK E code Q U s:=
 OK.resFact (p:=A.Ok 400∧A.plain=H) hl (fun _ _ _ hj=>(hj he).1) fun hp=>OK.resTo hl (HeapJ.stable _) (fun _ _ _ hj=>(hj he).2) (h hp.1 hp.2)
theorem person_new{l:List Person}{i:Nat}{p:Person}(h:personE l i p=0):p.name∉(l.take i).map Person.name:=by
 unfold personE at h
 intro hm
 rw[decide_eq_false (not_not_intro hm)]at h
 cases hn:nameOk p.name<;>rw[hn]at h<;>exact absurd h (by simp[firstE,unlessE])
theorem lkMap{a b:List (List UInt8)}(h:a=b):some (X.omap (mapX (setB a)))=some (X.omap (mapX (setB b))):=by rw[h]
theorem runT_out{H:House}{l:List Entry}{i:Nat}(h:i<l.length)(he:(enterT H l[i]).2≠0):runT H i (l.drop i)=((enterT H l[i]).1,(i:Int),(enterT H l[i]).2):=by rw[runT_drop h,if_pos he]
theorem runT_on{H:House}{l:List Entry}{i:Nat}(h:i<l.length)(he:(enterT H l[i]).2=0):runT H i (l.drop i)=runT (enterT H l[i]).1 (i+1) (l.drop (i+1)):=by rw[runT_drop h,if_neg (by rw[he];decide)]
def foundE(n:Net)(l:List Entry)(num:Int):Int:=if(replayT n l).2.2≠0 then(replayT n l).2.2 else findE num ((replayT n l).1.pIx num).isSome
def foundP(n:Net)(l:List Entry)(num:Int)(A:HA):Value:=if(replayT n l).2.2=0 then optP A.pb (ix (fun v=>decide (v.p.num=num)) A.parts)else .pointer none
theorem rec_open1{n:Int}:Ct Tryz.prog 67 [.int .i64 n] (.bool (decide (0≤n∧n≤10000))):=by
 refine Ct.intro (rs:=[.tmp 2]) Tryz.func67 rfl Tryz.ntmps67 Tryz.results67 rfl rfl rfl fun w h=>?_
 refine kr (kc (zb rfl) (kq (kc (zm rfl) (kc (S.call (rec_within) Tryz.call55 .none rfl (zc rfl (.cons (.cint rfl) (.cons (.cint rfl) .nil))) rfl) (kc (za rfl) (kD (OK.ret (Ret.r1 (zo rfl rfl) ?_))))))))
 rfl
set_option maxHeartbeats 2000000 in
theorem rec_open{n:Net}(hp:n.plan.length≤1000):CtT Tryz.prog 42 [.agg n.cs] (.tup [.agg ((shopT n).1.cs++(shopT n).2.cs),.int .i64 (netT n).1,.int .i64 (netT n).2]):=by
 refine CtT.intro (rs:=[.cell 2 107,.tmp 3,.tmp 4]) Tryz.func42 rfl Tryz.ntmps42 Tryz.results42 rfl rfl rfl fun w h hT=>?_
 refine kr (RK.c (zB (c:=1) rfl rfl) (RK.c (zA (c:=2) ze107 rfl) (kc (zi rfl rfl) (kc (zi rfl rfl) (kD (kO (kO (OK.regionDraw follows (.c (zf fi26_0 rfl) (.c (zl ti22 rfl rfl rfl rfl) (.c (zk si22 rfl) (.c (S.gtr .none rfl (zt rfl) (.cint rfl)) (.c (S.call (record_unless) Tryz.call58 .none rfl (zc rfl (.cons (.cint rfl) .nil)) rfl) (.c (zf fi26_0 rfl) (.c (zl ti22 rfl rfl rfl rfl) (.c (zk si22 rfl) (.c (S.leq .none rfl (zt rfl) (.cint rfl)) (.c (S.call (record_unless) Tryz.call58 .none rfl (zc rfl (.cons (.cint rfl) .nil)) rfl) (.c (S.mkSlice (k:=24) (rows:=[[_],[_]]) ai184 .none rfl (zc rfl (zc rfl .nil)) rfl rfl rfl rfl rfl rfl rfl) (.c (S.callL (record_first (l:=[_,_])) Tryz.call57 .none rfl (zc rfl .nil) (.cons (.p (.own rfl rfl) rfl) .nil) rfl) (.c (za rfl) .nil))))))))))))) (by kernel_rfl) ?_))))))))
 refine kp (kc (zm rfl) (kc (zN rfl rfl) (kD (kB rfl (fun c27=>?_) (fun c27=>?_)))))
 ·
  have hz:sizeE n≠0:=c27
  obtain⟨hN,hS⟩:=netT_1 hz
  refine kr (kc (S.build bu107 rfl .none rfl .nil rfl rfl) (kc (zm rfl) (kc (zS ti107 rfl rfl rfl rfl rfl rfl) (kc (zi rfl rfl) (kc (za rfl) (kD (OK.ret (Ret.r3 (.cellN rfl rfl rfl rfl ti107 rfl (.k .nils (.k (.same rfl) (.k (.same rfl) (.k (.same rfl) (.k (.same rfl) (.k .nils (.k (.same rfl) .z)))))))) (zo rfl rfl) (zo rfl rfl) ?_))))))))
  rw[hN,hS]
  rfl
 ·
  have hz:sizeE n=0:=Decidable.not_not.1 c27
  have hl8:=size_le hz
  refine OK.skip (kp (RK.c (S.makeMapO (k:=30) rfl .none rfl) (kc (za rfl) (kD (kO (kr ?_))))))
  refine kc (zf fi26_0 rfl) (kc (zl ti22 rfl rfl rfl rfl) (kc (zk si22 rfl) (kc (S.move .none rfl (.cint rfl)) (kD (OK.block (OK.loop (G:=Nat) [1,2,30] (fun i=>[(1,.ptr 1 0),(1001,.box n.cs),(2,.ptr 2 0),(1002,.box [.nils,.str [],.int .i64 0,.int .i64 0,.int .i64 0,.nils,.int .i64 0]),(6,.mptr 30),(1030,.omap (mapX (setB ((n.people.take i).map Person.name)))),(32,.sl (n.people.map Person.cs)),(33,.int .i64 n.people.length),(34,.int .i64 i)]) (fun i=>i≤n.people.length∧eachGo (personE n.people) 0 n.people=eachGo (personE n.people) i (n.people.drop i)) (fun i=>n.people.length - i) 0 ⟨Nat.zero_le _,rfl⟩ ⟨rfl,rfl,rfl,rfl,rfl,rfl,rfl,rfl,rfl,trivial⟩ (fun _=>rfl) ?_))))))
  rintro i ⟨hi,hg⟩
  refine kr (kc (S.lss .none rfl (zt rfl) (zt rfl)) (kD (kO (kB rfl (fun c35=>?_) (fun c35=>?_)))))
  ·
   have hil:i<n.people.length:=by omega
   refine OK.skip (Ab.D.code (kO (OK.block (kr (kc (zm rfl) (kc (S.indexM (n:=i) si22 .none rfl (zt rfl) (zt rfl) rfl (by omega) rfl) (kc (S.loadN ti102 .none rfl (zt rfl) rfl rfl) (RK.c (zA (c:=8) ze102 rfl) (kc (za rfl) (kc (zS ti102 rfl rfl rfl rfl rfl rfl) (kD ?_)))))))))))
   refine kO (OK.regionDraw follows (.c (zf fi102_0 rfl) (.c (zl ti9 rfl rfl rfl rfl) (.c (S.call (rec_isName) Tryz.call65 .none rfl (zc rfl .nil) rfl) (.c (S.call (record_unless) Tryz.call58 .none rfl (zc rfl (.cons (.cint rfl) .nil)) rfl) (.c (zm rfl) (.c (zf fi102_0 rfl) (.c (zl ti9 rfl rfl rfl rfl) (.c (S.lookupB (ks:=(n.people.take i).map Person.name) Tryz.underlying150 Tryz.underlying9 Tryz.zeroValue4 rfl .none rfl (zt rfl) (zt rfl) rfl rfl) (.c (S.notD .none rfl (zt rfl)) (.c (S.call (record_unless) Tryz.call58 .none rfl (zc rfl (.cons (.cint rfl) .nil)) rfl) (.c (zf fi102_1 rfl) (.c (zl ti3 rfl rfl rfl rfl) (.c (S.call (rec_within) Tryz.call55 .none rfl (zc rfl (.cons (.cint rfl) (.cons (.cint rfl) .nil))) rfl) (.c (S.call (record_unless) Tryz.call58 .none rfl (zc rfl (.cons (.cint rfl) .nil)) rfl) (.c (S.mkSlice (k:=53) (rows:=[[_],[_],[_]]) ai184 .none rfl (zc rfl (zc rfl (zc rfl .nil))) rfl rfl rfl rfl rfl rfl rfl) (.c (S.callL (record_first (l:=[_,_,_])) Tryz.call57 .none rfl (zc rfl .nil) (.cons (.p (.own rfl rfl) rfl) .nil) rfl) (.c (za rfl) .nil))))))))))))))))) (by kernel_rfl) ?_)
   refine Ab.D.code (kO (kr ?_))
   refine kc (zm rfl) (kc (zN rfl rfl) (kD (kB rfl (fun c56=>?_) (fun c56=>?_))))
   ·
    have hpe:personE n.people i n.people[i]≠0:=c56
    have hee:eachGo (personE n.people) 0 n.people=((i:Int),personE n.people i n.people[i]):=by rw[hg,eachGo_drop _ hil,if_pos hpe]
    obtain⟨hN,hS⟩:=netT_2 hz (by rw[hee];exact hpe)
    rw[hee]at hN
    refine kr (kc (S.build bu107 rfl .none rfl .nil rfl rfl) (kc (zm rfl) (kc (zm rfl) (kc (zS ti107 rfl rfl rfl rfl rfl rfl) (kc (za rfl) (kc (za rfl) (kD (OK.ret (Ret.r3 (.cellN rfl rfl rfl rfl ti107 rfl (.k .nils (.k (.same rfl) (.k (.same rfl) (.k (.same rfl) (.k (.same rfl) (.k .nils (.k (.same rfl) .z)))))))) (zo rfl rfl) (zo rfl rfl) ?_)))))))))
    rw[hN,hS]
    rfl
   ·
    have hpe:personE n.people i n.people[i]=0:=Decidable.not_not.1 c56
    have hnm:n.people[i].name∉(n.people.take i).map Person.name:=person_new hpe
    refine OK.skip (Ab.D.code (OK.reg ?_))
    refine kc (zm rfl) (kc (zf fi102_0 rfl) (kc (zl ti9 rfl rfl rfl rfl) (kc (S.setAddB (ks:=(n.people.take i).map Person.name) Tryz.underlying150 Tryz.underlying9 .none (zt rfl) (zt rfl) .cbool rfl rfl hnm) (RK.nil (Ab.D.blk (Ab.D.code (OK.reg ?_)))))))
    refine kc (zp rfl rfl (by omega)) (kc (zm rfl) (RK.nil ?_))
    refine Ab.D.lp ⟨i+1,⟨by omega,by rw[hg,eachGo_drop _ hil,if_neg (by rw[hpe];decide)]⟩,(by omega),rfl,rfl,rfl,rfl,rfl,(lkMap (by rw[take_names hil])),rfl,rfl,rfl,trivial⟩
  ·
   refine OK.exit rfl (Ab.D.code (kO ?_))
   have hie:i=n.people.length:=by omega
   have hee:(eachGo (personE n.people) 0 n.people).2=0:=by rw[hg,hie,List.drop_length];rfl
   obtain⟨hN,hS⟩:=netT_3 hz hee
   refine OK.reg (kc (zf fi26_1 rfl) (kc (zl ti9 rfl rfl rfl rfl) (kc (S.callT (mon_ParsePlan (l:=n.plan) (by omega)) hT Tryz.call66 .none rfl (zc rfl .nil) rfl) (kc (zm rfl) (kc (zX rfl rfl rfl) (kc (zX rfl rfl rfl) (RK.c (zA (c:=10) ze105 rfl) (kc (zS ti105 rfl rfl rfl rfl rfl rfl) (kc (za rfl) (kq (kc (S.assign .none rfl .cfn) ?_)))))))))))
   refine kq (kc (zf fi26_2 rfl) (kc (zl ti3 rfl rfl rfl rfl) (kc (S.call (rec_within) Tryz.call55 .none rfl (zc rfl (.cons (.cint rfl) (.cons (.cint rfl) .nil))) rfl) (kc (zm rfl) (RK.splitD (t:=73) rfl (fun g73=>?_) (fun g73=>?_))))))
   ·
    refine kc (S.move (zg rfl rfl) rfl (zt rfl)) (kc (S.bfield fi26_3 (zg rfl rfl) rfl (zt rfl)) (kc (S.bfield fi24_0 (zg rfl rfl) rfl (zt rfl)) (kc (S.bload1 ti3 (zg rfl rfl) rfl (zt rfl) rfl rfl rfl rfl) (kc (S.callv (rec_open1) Tryz.call67 (zg rfl rfl) rfl (zt rfl) (zc rfl .nil) rfl rfl rfl) (kc (S.pickT .none rfl (zt rfl) (zt rfl) rfl) (kc (zm rfl) (RK.splitD (t:=80) rfl (fun g80=>?_) (fun g80=>?_))))))))
    ·
     refine kc (S.move (zg rfl rfl) rfl (zt rfl)) (kc (S.bfield fi26_3 (zg rfl rfl) rfl (zt rfl)) (kc (S.bfield fi24_1 (zg rfl rfl) rfl (zt rfl)) (kc (S.bload1 ti3 (zg rfl rfl) rfl (zt rfl) rfl rfl rfl rfl) (kc (S.callv (rec_open1) Tryz.call67 (zg rfl rfl) rfl (zt rfl) (zc rfl .nil) rfl rfl rfl) (kc (S.pickT .none rfl (zt rfl) (zt rfl) rfl) (kc (za rfl) (kD (kO (OK.regionDraw follows (.c (zL ti26 rfl rfl rfl rfl) (.c (zL ti105 rfl rfl rfl rfl) (.c (S.build bu107 rfl .none rfl (zc rfl (zc rfl .nil)) rfl rfl) (.c (zm rfl) (.c (zm rfl) (.c (S.call (record_unless) Tryz.call58 .none rfl (zc rfl (.cons (.cint rfl) .nil)) rfl) (.c (zf fi26_3 rfl) (.c (zf fi24_0 rfl) (.c (zl ti3 rfl rfl rfl rfl) (.c (zf fi26_3 rfl) (.c (zf fi24_1 rfl) (.c (zl ti3 rfl rfl rfl rfl) (.c (S.leq .none rfl (zt rfl) (zt rfl)) (.c (S.call (record_unless) Tryz.call58 .none rfl (zc rfl (.cons (.cint rfl) .nil)) rfl) (.c (S.mkSlice (k:=101) (rows:=[[_],[_],[_]]) ai184 .none rfl (zc rfl (zc rfl (zc rfl .nil))) rfl rfl rfl rfl rfl rfl rfl) (.c (S.callL (record_first (l:=[_,_,_])) Tryz.call57 .none rfl (zc rfl .nil) (.cons (.p (.own rfl rfl) rfl) .nil) rfl) (.c (zS ti107 rfl rfl rfl rfl rfl rfl) (.c (zi rfl rfl) (.c (za rfl) .nil))))))))))))))))))) (by kernel_rfl) ?_)))))))))
     refine Ab.D.code (OK.ret (Ret.r3 (.cellN rfl rfl rfl rfl ti107 rfl (.k (.same rfl) (.k (.same rfl) (.k (.same rfl) (.k (.same rfl) (.k (.same rfl) (.k (.same rfl) (.k (.same rfl) .z)))))))) (zo rfl rfl) (zo rfl rfl) ?_))
     rw[hN,hS]
     refine congrArg (fun e=>X.tup [.agg (n.cs++(parseP n.plan).1.cs),.int .i64 0,.int .i64 e]) ?_
     unfold endE rangeB
     first|(rw[decide_eq_true g73,decide_eq_true g80,Bool.true_and,Bool.true_and];done)|(rw[decide_eq_true g73,decide_eq_false g80,Bool.true_and,Bool.false_and];done)|(rw[decide_eq_false g73,Bool.false_and];done)
    ·
     refine kc (zQ rfl rfl) (kc (zQ rfl rfl) (kc (zQ rfl rfl) (kc (zQ rfl rfl) (kc (zQ rfl rfl) (kc (S.pickF .none rfl (zt rfl) .cbool rfl) (kc (za rfl) (kD (kO (OK.regionDraw follows (.c (zL ti26 rfl rfl rfl rfl) (.c (zL ti105 rfl rfl rfl rfl) (.c (S.build bu107 rfl .none rfl (zc rfl (zc rfl .nil)) rfl rfl) (.c (zm rfl) (.c (zm rfl) (.c (S.call (record_unless) Tryz.call58 .none rfl (zc rfl (.cons (.cint rfl) .nil)) rfl) (.c (zf fi26_3 rfl) (.c (zf fi24_0 rfl) (.c (zl ti3 rfl rfl rfl rfl) (.c (zf fi26_3 rfl) (.c (zf fi24_1 rfl) (.c (zl ti3 rfl rfl rfl rfl) (.c (S.leq .none rfl (zt rfl) (zt rfl)) (.c (S.call (record_unless) Tryz.call58 .none rfl (zc rfl (.cons (.cint rfl) .nil)) rfl) (.c (S.mkSlice (k:=101) (rows:=[[_],[_],[_]]) ai184 .none rfl (zc rfl (zc rfl (zc rfl .nil))) rfl rfl rfl rfl rfl rfl rfl) (.c (S.callL (record_first (l:=[_,_,_])) Tryz.call57 .none rfl (zc rfl .nil) (.cons (.p (.own rfl rfl) rfl) .nil) rfl) (.c (zS ti107 rfl rfl rfl rfl rfl rfl) (.c (zi rfl rfl) (.c (za rfl) .nil))))))))))))))))))) (by kernel_rfl) ?_)))))))))
     refine Ab.D.code (OK.ret (Ret.r3 (.cellN rfl rfl rfl rfl ti107 rfl (.k (.same rfl) (.k (.same rfl) (.k (.same rfl) (.k (.same rfl) (.k (.same rfl) (.k (.same rfl) (.k (.same rfl) .z)))))))) (zo rfl rfl) (zo rfl rfl) ?_))
     rw[hN,hS]
     refine congrArg (fun e=>X.tup [.agg (n.cs++(parseP n.plan).1.cs),.int .i64 0,.int .i64 e]) ?_
     unfold endE rangeB
     first|(rw[decide_eq_true g73,decide_eq_true g80,Bool.true_and,Bool.true_and];done)|(rw[decide_eq_true g73,decide_eq_false g80,Bool.true_and,Bool.false_and];done)|(rw[decide_eq_false g73,Bool.false_and];done)
   ·
    refine kc (zQ rfl rfl) (kc (zQ rfl rfl) (kc (zQ rfl rfl) (kc (zQ rfl rfl) (kc (zQ rfl rfl) (kc (S.pickF .none rfl (zt rfl) .cbool rfl) (kc (zm rfl) (kc (zQ rfl rfl) (kc (zQ rfl rfl) (kc (zQ rfl rfl) (kc (zQ rfl rfl) (kc (zQ rfl rfl) ?_)))))))))))
    refine kc (S.pickF .none rfl (zt rfl) .cbool rfl) (kc (za rfl) (kD (kO (OK.regionDraw follows (.c (zL ti26 rfl rfl rfl rfl) (.c (zL ti105 rfl rfl rfl rfl) (.c (S.build bu107 rfl .none rfl (zc rfl (zc rfl .nil)) rfl rfl) (.c (zm rfl) (.c (zm rfl) (.c (S.call (record_unless) Tryz.call58 .none rfl (zc rfl (.cons (.cint rfl) .nil)) rfl) (.c (zf fi26_3 rfl) (.c (zf fi24_0 rfl) (.c (zl ti3 rfl rfl rfl rfl) (.c (zf fi26_3 rfl) (.c (zf fi24_1 rfl) (.c (zl ti3 rfl rfl rfl rfl) (.c (S.leq .none rfl (zt rfl) (zt rfl)) (.c (S.call (record_unless) Tryz.call58 .none rfl (zc rfl (.cons (.cint rfl) .nil)) rfl) (.c (S.mkSlice (k:=101) (rows:=[[_],[_],[_]]) ai184 .none rfl (zc rfl (zc rfl (zc rfl .nil))) rfl rfl rfl rfl rfl rfl rfl) (.c (S.callL (record_first (l:=[_,_,_])) Tryz.call57 .none rfl (zc rfl .nil) (.cons (.p (.own rfl rfl) rfl) .nil) rfl) (.c (zS ti107 rfl rfl rfl rfl rfl rfl) (.c (zi rfl rfl) (.c (za rfl) .nil))))))))))))))))))) (by kernel_rfl) ?_))))
    refine Ab.D.code (OK.ret (Ret.r3 (.cellN rfl rfl rfl rfl ti107 rfl (.k (.same rfl) (.k (.same rfl) (.k (.same rfl) (.k (.same rfl) (.k (.same rfl) (.k (.same rfl) (.k (.same rfl) .z)))))))) (zo rfl rfl) (zo rfl rfl) ?_))
    rw[hN,hS]
    refine congrArg (fun e=>X.tup [.agg (n.cs++(parseP n.plan).1.cs),.int .i64 0,.int .i64 e]) ?_
    unfold endE rangeB
    first|(rw[decide_eq_true g73,decide_eq_true g80,Bool.true_and,Bool.true_and];done)|(rw[decide_eq_true g73,decide_eq_false g80,Bool.true_and,Bool.false_and];done)|(rw[decide_eq_false g73,Bool.false_and];done)
theorem rec_CheckNet{n:Net}(hp:n.plan.length≤1000):CtT Tryz.prog 9 [.agg n.cs] (.tup [.int .i64 (netT n).1,.int .i64 (netT n).2]):=by
 refine CtT.intro (rs:=[.tmp 2,.tmp 3]) Tryz.func9 rfl Tryz.ntmps9 Tryz.results9 rfl rfl rfl fun w h hT=>?_
 refine kr (RK.c (zB (c:=1) rfl rfl) (kc (zi rfl rfl) (kc (zi rfl rfl) (kq (kc (zL ti26 rfl rfl rfl rfl) (kc (S.callT (rec_open (by omega)) hT Tryz.call42 .none rfl (zc rfl .nil) rfl) (kc (zm rfl) (kc (zX rfl rfl rfl) (kc (zX rfl rfl rfl) (kc (zX rfl rfl rfl) (RK.c (zA (c:=4) ze107 rfl) ?_)))))))))))
 refine kc (zS ti107 rfl rfl rfl rfl rfl rfl) (kc (za rfl) (kc (za rfl) (kq (kc (zm rfl) (kc (zm rfl) (kc (za rfl) (kc (za rfl) (kD (OK.ret (Ret.r2 (zo rfl rfl) (zo rfl rfl) ?_))))))))))
 rfl
set_option maxHeartbeats 2000000 in
theorem rec_replay{n:Net}{l:List Entry}(hp:n.plan.length≤1000)(hE:EffIn l):CtXT Tryz.prog 45 [.agg n.cs,.sl (l.map Entry.cs)] (fun A:HA=>.tup [.raw (retP (replayT n l).2.2 A.b),.int .i64 (replayT n l).2.1,.int .i64 (replayT n l).2.2]) (fun A:HA=>JLA (replayT n l).2.2 (replayT n l).1 A):=by
 refine CtXT.intro (rs:=[.tmp 4,.tmp 5,.tmp 6]) Tryz.func45 rfl Tryz.ntmps45 Tryz.results45 rfl rfl rfl fun w h hT=>?_
 refine OK.resNil Key (OK.slLen (rows:=l.map Entry.cs) (t:=1) rfl rfl fun hlen=>?_)
 rw[List.length_map]at hlen
 unfold maxLen at hlen
 have hR0:logE n l≠0→replayT n l=(House.init n (parseP n.plan).1,0,logE n l):=fun h=>by unfold replayT;rw[if_pos h]
 have hR1:logE n l=0→replayT n l=runT (House.init n (parseP n.plan).1) 0 l:=fun h=>by unfold replayT;rw[if_neg (by rw[h];decide)]
 refine kr (RK.c (zB (c:=2) rfl rfl) (kc (S.assign .none rfl .craw) (kc (zi rfl rfl) (kc (zi rfl rfl) (kq (kc (zL ti26 rfl rfl rfl rfl) (kc (S.callT (rec_open (by omega)) hT Tryz.call42 .none rfl (zc rfl .nil) rfl) (kc (zm rfl) (kc (zX rfl rfl rfl) (kc (zX rfl rfl rfl) (kc (zX rfl rfl rfl) ?_)))))))))))
 refine RK.c (zA (c:=7) ze107 rfl) (kc (zS ti107 rfl rfl rfl rfl rfl rfl) (kc (za rfl) (kc (za rfl) (kD (kO (kr ?_))))))
 refine kc (zm rfl) (kc (zm rfl) (kc (zk si35 rfl) (kc (S.leq .none rfl (zt rfl) (.cint rfl)) (kc (S.call (record_unless) Tryz.call58 .none rfl (zc rfl (.cons (.cint rfl) .nil)) rfl) (RK.c (S.mkSlice (k:=25) (rows:=[[_],[_]]) ai184 .none rfl (zc rfl (zc rfl .nil)) rfl rfl rfl rfl rfl rfl rfl) (kc (S.callL (record_first (l:=[_,_])) Tryz.call57 .none rfl (zc rfl .nil) (.cons (.p (.own rfl rfl) rfl) .nil) rfl) (kc (za rfl) (kq (kc (zm rfl) (kc (zN rfl rfl) (kD ?_)))))))))))
 refine kB rfl (fun c28=>?_) (fun c28=>?_)
 ·
  have hL:logE n l≠0:=c28
  have hT:=hR0 hL
  refine kr (kc (zm rfl) (kc (S.assign .none rfl .craw) (kc (zi rfl rfl) (kc (za rfl) (kD ?_)))))
  refine OK.resTo (J':=JLA (replayT n l).2.2 (replayT n l).1 (HA.init 0 n (parseP n.plan).1)) rfl (JLA.stable _ _ _) (fun h Y w hj he=>absurd he (by rw[hT];exact hL)) ?_
  refine OK.ret ⟨(HA.init 0 n (parseP n.plan).1),Ret.r3 (zo rfl rfl) (zo rfl rfl) (zo rfl rfl) ?_,rfl⟩
  rw[hT]
  dsimp only
  rw[retP_n hL]
  try rfl
 ·
  have hL:logE n l=0:=Decidable.not_not.1 c28
  have hR:=hR1 hL
  obtain⟨hN0,hlen60⟩:=logE_0 hL
  obtain⟨hS,hP0⟩:=netT_0 hN0
  rw[hS]
  refine OK.skip (kp (kc (zL ti107 rfl rfl rfl rfl) (kc (S.build bu130 rfl .none rfl (zc rfl .nil) rfl rfl) (RK.c (S.boxA (k:=32) rfl .none rfl (zt rfl) rfl) (kc (za rfl) (kD (kO (kO (OK.hboxC 10 .house (cells':=(HA.init 0 n (parseP n.plan).1).cs) rfl rfl rfl ⟨.inl ⟨rfl,rfl⟩,.inl ⟨rfl,rfl⟩,.inl ⟨rfl,rfl⟩,.inl ⟨rfl,rfl⟩,.inl ⟨rfl,rfl⟩,.inl ⟨rfl,rfl⟩,.inl ⟨rfl,rfl⟩,.inl ⟨rfl,rfl⟩,.inl ⟨rfl,rfl⟩,.inl ⟨rfl,rfl⟩,.inl ⟨rfl,rfl⟩,.inl ⟨rfl,rfl⟩,.inl ⟨rfl,rfl⟩,.inr ⟨rfl,rfl⟩,.inl ⟨rfl,rfl⟩,.inl ⟨rfl,rfl⟩,.inl ⟨rfl,rfl⟩,trivial⟩ rfl fun b=>?_)))))))))
  refine OK.resTo (J':=JX b (House.init n (parseP n.plan).1) (2 * ((0:Nat):Int))) rfl (JX.stable _ _ _) (fun h Y w hj=>⟨HA.init b n (parseP n.plan).1,⟨rfl,rfl,HA.init_ok _ _ _⟩,by rw[←HA.init_mem];exact hj⟩) ?_
  refine OK.reg (kc (zm rfl) (kc (zk si35 rfl) (kc (S.move .none rfl (.cint rfl)) (kD (OK.block (OK.loop2 [] (fun(i:Nat)(H:House)=>[(10,.raw (pV b)),(33,.sl (l.map Entry.cs)),(34,.int .i64 l.length),(35,.int .i64 i),(3000,.res (JX b H (2 * (i:Int))))]) (fun i H=>i≤l.length∧replayT n l=runT H i (l.drop i)∧planErr H.plan=0∧CaseB H.net) (fun i H=>l.length - i) (0) ((House.init n (parseP n.plan).1)) ⟨Nat.zero_le _,hR,parseP_plan hP0,netT_B hN0⟩ ⟨rfl,rfl,rfl,rfl,rfl,trivial⟩ (fun _ _=>rfl) ?_))))))
  rintro i H ⟨hi,hg,hpe,hce⟩
  refine kr (kc (S.lss .none rfl (zt rfl) (zt rfl)) (kD (kO (kB rfl (fun c36=>?_) (fun c36=>?_)))))
  ·
   have hil:i<l.length:=by omega
   obtain⟨hx1,hx2⟩:=hE _ (List.getElem_mem hil)
   refine OK.skip (Ab.D.code (kO (OK.block (kr (kc (zm rfl) (kc (S.indexM (n:=i) si35 .none rfl (zt rfl) (zt rfl) rfl (by omega) rfl) (kc (S.loadN ti37 .none rfl (zt rfl) rfl rfl) (RK.c (zA (c:=12) ze37 rfl) (kc (za rfl) (kc (zS ti37 rfl rfl rfl rfl rfl rfl) (kD ?_)))))))))))
   refine kO (OK.resJX rfl fun A hb hpl hok=>?_)
   subst hb
   subst hpl
   refine OK.reg (kc (zm rfl) (kc (zL ti37 rfl rfl rfl rfl) (RK.c (S.callJ (((rec_enter hok (by omega) hpe hce hx1 hx2).atJ hT (HeapJ.stable _))) (JX.stable _ _ _) Tryz.call46 .none rfl (zc rfl (zc rfl .nil)) rfl rfl) (kc (za rfl) (kq (kc (zm rfl) (kc (zN rfl rfl) (kD (kB rfl (fun c44=>?_) (fun c44=>?_))))))))))
   ·
    have hT:=hg.trans (runT_out hil c44)
    refine kr (kc (zm rfl) (kc (zm rfl) (kc (S.assign .none rfl .craw) (kc (za rfl) (kc (za rfl) (kD ?_))))))
    refine OK.resTo (J':=JLA (replayT n l).2.2 (replayT n l).1 (HA.init 0 n (parseP n.plan).1)) rfl (JLA.stable _ _ _) (fun h Y w hj he=>absurd he (by rw[hT];exact c44)) ?_
    refine OK.ret ⟨(HA.init 0 n (parseP n.plan).1),Ret.r3 (zo rfl rfl) (zo rfl rfl) (zo rfl rfl) ?_,rfl⟩
    rw[hT]
    dsimp only
    rw[retP_n c44]
    try rfl
   ·
    have he0:=Decidable.not_not.1 c44
    refine OK.skip (Ab.D.blk (Ab.D.code (OK.reg ?_)))
    refine kc (zp rfl rfl (by omega)) (kc (zm rfl) (RK.nil ?_))
    refine Ab.D.lp ⟨i+1,(enterT A.plain l[i]).1,⟨by omega,by rw[hg,runT_on hil he0],by rw[(enterT_plan _ _).1];exact hpe,by rw[(enterT_plan _ _).2];exact hce⟩,(by omega),rfl,rfl,rfl,rfl,(lk_res (by rw[show 2 * ((i+1:Nat):Int)=2 * (i:Int)+2 by omega])),trivial⟩
  ·
   have hT:replayT n l=(H,0,0):=by rw[hg,show i=l.length by omega,List.drop_length];rfl
   refine OK.exit rfl (kp (kc (zm rfl) (kc (za rfl) (kc (zi rfl rfl) (kc (zi rfl rfl) (kD (OK.resJX rfl fun A2 hb2 hpl2 hok2=>?_)))))))
   subst hb2
   refine OK.resTo (J':=JLA (replayT n l).2.2 (replayT n l).1 A2) rfl (JLA.stable _ _ _) (fun h Y w hj he=>⟨⟨hok2.more (by omega) (by omega),by rw[hT];exact hpl2⟩,hj⟩) ?_
   refine OK.ret ⟨A2,Ret.r3 (zo rfl rfl) (zo rfl rfl) (zo rfl rfl) ?_,rfl⟩
   rw[hT]
   dsimp only
   rw[retP_0 rfl]
   try rfl
theorem rec_found{n:Net}{l:List Entry}{num:Int}(hp:n.plan.length≤1000)(hE:EffIn l):CtXT Tryz.prog 49 [.agg n.cs,.sl (l.map Entry.cs),.int .i64 num] (fun A:HA=>.tup [.raw (foundP n l num A),.int .i64 (foundE n l num)]) (fun A:HA=>JLA (replayT n l).2.2 (replayT n l).1 A):=by
 refine CtXT.intro (rs:=[.tmp 6,.tmp 7]) Tryz.func49 rfl Tryz.ntmps49 Tryz.results49 rfl rfl rfl fun w h hT=>?_
 refine kr (RK.c (zB (c:=3) rfl rfl) (kc (S.assign .none rfl .craw) (kc (zi rfl rfl) (kq (kc (zL ti26 rfl rfl rfl rfl) (kc (zm rfl) (RK.callXA (((rec_replay hp hE).at hT)) (fun _=>JLA.stable _ _ _) (fun _=>JLA.mono) Tryz.call45 rfl (zc rfl (zc rfl .nil)) rfl fun A=>?_)))))))
 refine kc (zm rfl) (kc (zX rfl rfl rfl) (kc (zX rfl rfl rfl) (kc (zX rfl rfl rfl) (kc (za rfl) (kc (za rfl) (kc (za rfl) (kD (kO (kr ?_)))))))))
 refine kc (zm rfl) (kc (zN rfl rfl) (kD (kB rfl (fun c19=>?_) (fun c19=>?_))))
 ·
  refine kr (kc (zm rfl) (kc (S.assign .none rfl .craw) (kc (za rfl) (kD (OK.ret ⟨A,Ret.r2 (zo rfl rfl) (zo rfl rfl) ?_,rfl⟩)))))
  unfold foundP foundE
  dsimp only
  rw[if_neg c19,if_pos c19]
  try rfl
 ·
  have he0:(replayT n l).2.2=0:=Decidable.not_not.1 c19
  refine OK.skip (Ab.D.code (kO (OK.resJLA he0 rfl fun hok hpl=>?_)))
  rw[retP_0 he0]
  have hpx:A.plain.pIx num=ix (fun v=>decide (v.p.num=num)) A.parts:=HA.pIx_plain A num
  refine OK.reg (kc (zm rfl) (kc (zm rfl) (kc (S.callR ((fun J hS hJ=>(rec_find hok hS hJ).atJ hS)) Tryz.call86 .none rfl (zc rfl (zc rfl .nil)) rfl rfl) ?_)))
  refine kc (zX rfl rfl rfl) (kc (zX rfl rfl rfl) (kc (za rfl) (kc (za rfl) (kD (OK.resTo (J':=JLA (replayT n l).2.2 (replayT n l).1 A) rfl (JLA.stable _ _ _) (fun h Y w hj he=>⟨⟨hok,hpl⟩,hj⟩) ?_)))))
  refine OK.ret ⟨A,Ret.r2 (zo rfl rfl) (zo rfl rfl) ?_,rfl⟩
  unfold foundP foundE
  dsimp only
  rw[if_pos he0,if_neg (by rw[he0];decide),←hpl,hpx]
  try rfl
end Go.Proofs.YtpbalelbenmmbaaGreatDoor
