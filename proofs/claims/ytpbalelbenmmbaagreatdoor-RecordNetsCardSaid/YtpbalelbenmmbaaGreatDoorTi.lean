import Derived.Test.YtpbalelbenmmbaaGreatDoorHz
import Derived.Test.YtpbalelbenmmbaaGreatDoorFs
import Derived.Test.YtpbalelbenmmbaaGreatDoorGh
import Derived.Test.YtpbalelbenmmbaaGreatDoorHo
import Derived.Test.YtpbalelbenmmbaaGreatDoorRq
import Derived.Test.YtpbalelbenmmbaaGreatDoorTe
import Derived.Test.YtpbalelbenmmbaaGreatDoorTy
import Derived.Test.YtpbalelbenmmbaaGreatDoorWa
namespace Go.Proofs.YtpbalelbenmmbaaGreatDoor
open Go.Ab
def netX:Net:=⟨[⟨[111,108,97],1⟩,⟨[115,101,109],2⟩,⟨[105,110,97],3⟩,⟨[101,118,97],4⟩],[50,32,112,111,119,101,114],550,100,120⟩
def logX:List Entry:=[⟨1,[101,118,97],[114,101,99,105,112,101,32,114,32,104,101,97,116,32,52,48,48,32,50,59,113,117,101,110,99,104,32,49,32,51]⟩,⟨1,[115,101,109],[99,111,105,108,32,99,32,51]⟩,⟨2,[111,108,97],[115,116,97,114,116,32,49,32,114,32,99]⟩,⟨2,[111,108,97],[102,114,97,109,101,32,48,32,49,48]⟩,⟨3,[111,108,97],[102,114,97,109,101,32,49,32,49,50]⟩,⟨3,[111,108,97],[101,110,100]⟩,⟨4,[101,118,97],[109,111,100,101,108,32,49]⟩,⟨4,[101,118,97],[108,101,97,114,110,32,48]⟩,⟨5,[111,108,97],[115,116,97,114,116,32,50,32,114,32,99]⟩,⟨5,[111,108,97],[102,114,97,109,101,32,49,32,49,50]⟩,⟨5,[111,108,97],[102,114,97,109,101,32,48,32,49,48]⟩,⟨5,[111,108,97],[101,110,100]⟩,⟨5,[111,108,97],[103,111,111,100,32,50]⟩]
theorem eff_X:EffIn logX:=by
 intro x hx
 have h1:(logX.all fun x=>decide (x.text.length≤100000))=true:=by decide+kernel
 have h2:(logX.all fun x=>decide (verbIx (cutC 32 x.text).1∈[some 10,some 6,some 1,some 2,some 3,some 11,some 12,some 4]))=true:=by decide+kernel
 refine⟨of_decide_eq_true (List.all_eq_true.1 h1 x hx),fun k hk=>?_⟩
 have h3:=of_decide_eq_true (List.all_eq_true.1 h2 x hx)
 rw[hk]at h3
 simp only[List.mem_cons,Option.some.injEq,List.not_mem_nil,or_false]at h3
 rcases h3 with rfl|rfl|rfl|rfl|rfl|rfl|rfl|rfl
 ·exact @eff_10
 ·exact @eff_6
 ·exact @eff_1
 ·exact @eff_2
 ·exact @eff_3
 ·exact @eff_11
 ·exact @eff_12
 ·exact @eff_4
theorem sort_X:([0,1,8,9,10,11,12]:List Int).mergeSort (fun x y=>decide (x≤y))=[0,1,8,9,10,11,12]:=by
 have h1:(([0,1,8,9,10,11,12]:List Int).mergeSort fun x y=>decide (x≤y)).Pairwise (fun x y=>x≤y):=by
  have:=List.pairwise_mergeSort (le:=fun x y:Int=>decide (x≤y)) (by intro a b c h1 h2;simp only[decide_eq_true_eq]at *;omega) (by intro a b;simp only[Bool.or_eq_true,decide_eq_true_eq];omega) [0,1,8,9,10,11,12]
  exact this.imp (by simp)
 exact(List.mergeSort_perm _ _).eq_of_pairwise (fun a b _ _ h1 h2=>by omega) h1 (by decide)
theorem hist_X:histT netX logX 2=([0,1,8,9,10,11,12],0):=by
 have h0:foundE netX logX 2=0:=by decide+kernel
 have h1:(((replayT netX logX).1.parts[((replayT netX logX).1.pIx 2).getD 0]?.map (·.2)).getD [])=[0,1,8,9,10,11,12]:=by decide+kernel
 unfold histT
 rw[if_neg (by rw[h0];decide),h1,sort_X]
theorem ans_X:ansT netX logX [112,97,114,116,32,50]=([114,32,49,32,99,32,50,32,48],0):=by decide+kernel
theorem cnt_X:countsT netX logX=(⟨2,0,1,1,0,0⟩,0):=by decide+kernel
theorem ctT_res{P:Program}{f:Nat}{args:List X}{r r':X}(h:CtT P f args r)(e:r=r'):CtT P f args r':=e▸h
theorem law10_Net:Ct Tryz.prog 38 [] (.agg netX.cs):=by
 refine Ct.intro (rs:=[.cell 0 26]) Tryz.func38 rfl Tryz.ntmps38 Tryz.results38 rfl rfl rfl fun w h=>?_
 refine kr (RK.c (zA (c:=0) ze26 rfl) (kq (kc (S.build bu102 rfl .none rfl (.cons (.cstr (l:=[111,108,97]) rfl (by decide)) (.cons (.cint rfl) .nil)) rfl rfl) (kc (S.build bu102 rfl .none rfl (.cons (.cstr (l:=[115,101,109]) rfl (by decide)) (.cons (.cint rfl) .nil)) rfl rfl) (kc (S.build bu102 rfl .none rfl (.cons (.cstr (l:=[105,110,97]) rfl (by decide)) (.cons (.cint rfl) .nil)) rfl rfl) (kc (S.build bu102 rfl .none rfl (.cons (.cstr (l:=[101,118,97]) rfl (by decide)) (.cons (.cint rfl) .nil)) rfl rfl) (kc (S.mkData (rows:=[[_,_],[_,_],[_,_],[_,_]]) ai22 .none rfl (zc rfl (zc rfl (zc rfl (zc rfl .nil)))) rfl rfl rfl rfl rfl rfl rfl) (kc (S.build bu24 rfl .none rfl (.cons (.cint rfl) (.cons (.cint rfl) .nil)) rfl rfl) (kc (S.build bu26 rfl .none rfl (zc rfl (.cons (.cstr (l:=[50,32,112,111,119,101,114]) rfl (by decide)) (.cons (.cint rfl) (zc rfl .nil)))) rfl rfl) (kc (zS ti26 rfl rfl rfl rfl rfl rfl) (kD ?_)))))))))))
 refine OK.ret (Ret.r1 (.cellN rfl rfl rfl rfl ti26 rfl (.k (.same rfl) (.k (.same rfl) (.k (.same rfl) (.k (.same rfl) (.k (.same rfl) .z)))))) ?_)
 rfl
theorem law10_Log:Ct Tryz.prog 39 [] (.sl (logX.map Entry.cs)):=by
 refine Ct.intro (rs:=[.tmp 0]) Tryz.func39 rfl Tryz.ntmps39 Tryz.results39 rfl rfl rfl fun w h=>?_
 refine kr (kc (S.assign .none rfl .cnil) (kq (kc (S.build bu37 rfl .none rfl (.cons (.cint rfl) (.cons (.cstr (l:=[101,118,97]) rfl (by decide)) (.cons (.cstr (l:=[114,101,99,105,112,101,32,114,32,104,101,97,116,32,52,48,48,32,50,59,113,117,101,110,99,104,32,49,32,51]) rfl (by decide)) .nil))) rfl rfl) (kc (S.build bu37 rfl .none rfl (.cons (.cint rfl) (.cons (.cstr (l:=[115,101,109]) rfl (by decide)) (.cons (.cstr (l:=[99,111,105,108,32,99,32,51]) rfl (by decide)) .nil))) rfl rfl) (kc (S.build bu37 rfl .none rfl (.cons (.cint rfl) (.cons (.cstr (l:=[111,108,97]) rfl (by decide)) (.cons (.cstr (l:=[115,116,97,114,116,32,49,32,114,32,99]) rfl (by decide)) .nil))) rfl rfl) (kc (S.build bu37 rfl .none rfl (.cons (.cint rfl) (.cons (.cstr (l:=[111,108,97]) rfl (by decide)) (.cons (.cstr (l:=[102,114,97,109,101,32,48,32,49,48]) rfl (by decide)) .nil))) rfl rfl) (kc (S.build bu37 rfl .none rfl (.cons (.cint rfl) (.cons (.cstr (l:=[111,108,97]) rfl (by decide)) (.cons (.cstr (l:=[102,114,97,109,101,32,49,32,49,50]) rfl (by decide)) .nil))) rfl rfl) (kc (S.build bu37 rfl .none rfl (.cons (.cint rfl) (.cons (.cstr (l:=[111,108,97]) rfl (by decide)) (.cons (.cstr (l:=[101,110,100]) rfl (by decide)) .nil))) rfl rfl) (kc (S.build bu37 rfl .none rfl (.cons (.cint rfl) (.cons (.cstr (l:=[101,118,97]) rfl (by decide)) (.cons (.cstr (l:=[109,111,100,101,108,32,49]) rfl (by decide)) .nil))) rfl rfl) (kc (S.build bu37 rfl .none rfl (.cons (.cint rfl) (.cons (.cstr (l:=[101,118,97]) rfl (by decide)) (.cons (.cstr (l:=[108,101,97,114,110,32,48]) rfl (by decide)) .nil))) rfl rfl) (kc (S.build bu37 rfl .none rfl (.cons (.cint rfl) (.cons (.cstr (l:=[111,108,97]) rfl (by decide)) (.cons (.cstr (l:=[115,116,97,114,116,32,50,32,114,32,99]) rfl (by decide)) .nil))) rfl rfl) ?_)))))))))))
 refine kc (S.build bu37 rfl .none rfl (.cons (.cint rfl) (.cons (.cstr (l:=[111,108,97]) rfl (by decide)) (.cons (.cstr (l:=[102,114,97,109,101,32,49,32,49,50]) rfl (by decide)) .nil))) rfl rfl) (kc (S.build bu37 rfl .none rfl (.cons (.cint rfl) (.cons (.cstr (l:=[111,108,97]) rfl (by decide)) (.cons (.cstr (l:=[102,114,97,109,101,32,48,32,49,48]) rfl (by decide)) .nil))) rfl rfl) (kc (S.build bu37 rfl .none rfl (.cons (.cint rfl) (.cons (.cstr (l:=[111,108,97]) rfl (by decide)) (.cons (.cstr (l:=[101,110,100]) rfl (by decide)) .nil))) rfl rfl) (kc (S.build bu37 rfl .none rfl (.cons (.cint rfl) (.cons (.cstr (l:=[111,108,97]) rfl (by decide)) (.cons (.cstr (l:=[103,111,111,100,32,50]) rfl (by decide)) .nil))) rfl rfl) (kc (S.mkData (rows:=[[_,_,_],[_,_,_],[_,_,_],[_,_,_],[_,_,_],[_,_,_],[_,_,_],[_,_,_],[_,_,_],[_,_,_],[_,_,_],[_,_,_],[_,_,_]]) ai35 .none rfl (zc rfl (zc rfl (zc rfl (zc rfl (zc rfl (zc rfl (zc rfl (zc rfl (zc rfl (zc rfl (zc rfl (zc rfl (zc rfl .nil))))))))))))) rfl rfl rfl rfl rfl rfl rfl) (kc (za rfl) (kD (OK.ret (Ret.r1 (zo rfl rfl) ?_))))))))
 rfl
theorem aw10_hist:CtT Tryz.prog 37 [.agg netX.cs,.sl (logX.map Entry.cs),.int .i64 2] (.tup [ints [0,1,8,9,10,11,12],.int .i64 0]):=ctT_res (rec_HistoryOf (n:=netX) (l:=logX) (num:=2) (by decide) eff_X) (by rw[hist_X])
theorem aw10_ans:CtT Tryz.prog 40 [.agg netX.cs,.sl (logX.map Entry.cs),.str [112,97,114,116,32,50]] (.tup [.str [114,32,49,32,99,32,50,32,48],.int .i64 0]):=ctT_res (rec_Answer (n:=netX) (l:=logX) (q:=[112,97,114,116,32,50]) (by decide) eff_X (by decide)) (by rw[ans_X])
theorem aw10_cnt:CtT Tryz.prog 41 [.agg netX.cs,.sl (logX.map Entry.cs)] (.tup [.agg (Tally.mk 2 0 1 1 0 0).cs,.int .i64 0]):=ctT_res (rec_CountsOf (n:=netX) (l:=logX) (by decide) eff_X) (by rw[cnt_X])
theorem aw10_sum:Ct Tryz.prog 31 [.str [97,98],.int .i64 0] (.tup [.int .i64 22541,.int .i64 0]):=by
 have h:=rec_SumOf (l:=[97,98]) (a:=0)
 have e:(if 0≤(0:Int)∧(0:Int)≤999960 then sumT [97,98] 0 else 0)=22541:=by decide+kernel
 have e2:(if 0≤(0:Int)∧(0:Int)≤999960 then 0 else 2)=(0:Int):=by decide
 rw[e,e2]at h
 exact h
theorem aw10_ints:Ct Tryz.prog 26 [ints [0,1,8,9,10,11,12],ints [0,1,8,9,10,11,12]] (.bool true):=by
 have h:=base_Ints (a:=[0,1,8,9,10,11,12]) (b:=[0,1,8,9,10,11,12])
 rw[decide_eq_true rfl]at h
 exact h
theorem law10_awake:CtT Tryz.prog 7 [] (.bool true):=by
 refine CtT.intro (rs:=[.tmp 0]) Tryz.func7 rfl Tryz.ntmps7 Tryz.results7 rfl rfl rfl fun w h hT=>?_
 refine kr (kc (zb rfl) (kq (kc (S.call (law10_Net) Tryz.call38 .none rfl .nil rfl) (kc (S.call (law10_Log) Tryz.call39 .none rfl .nil rfl) (kc (S.callT (aw10_hist) hT Tryz.call37 .none rfl (zc rfl (zc rfl (.cons (.cint rfl) .nil))) rfl) (kc (zm rfl) (kc (zX rfl rfl rfl) (kc (zX rfl rfl rfl) (kc (za rfl) (kc (za rfl) (kq ?_)))))))))))
 refine kc (S.call (law10_Net) Tryz.call38 .none rfl .nil rfl) (kc (S.call (law10_Log) Tryz.call39 .none rfl .nil rfl) (kc (S.callT (aw10_ans) hT Tryz.call40 .none rfl (zc rfl (zc rfl (.cons (.cstr (l:=[112,97,114,116,32,50]) rfl (by decide)) .nil))) rfl) (kc (zm rfl) (kc (zX rfl rfl rfl) (kc (zX rfl rfl rfl) (kc (za rfl) (kc (za rfl) (kq (kc (S.call (aw10_sum) Tryz.call31 .none rfl (.cons (.cstr (l:=[97,98]) rfl (by decide)) (.cons (.cint rfl) .nil)) rfl) (kc (zm rfl) (kc (zX rfl rfl rfl) ?_)))))))))))
 refine kc (zX rfl rfl rfl) (kc (za rfl) (kc (za rfl) (kq (kc (S.call (law10_Net) Tryz.call38 .none rfl .nil rfl) (kc (S.call (law10_Log) Tryz.call39 .none rfl .nil rfl) (kc (S.callT (aw10_cnt) hT Tryz.call41 .none rfl (zc rfl (zc rfl .nil)) rfl) (kc (zm rfl) (kc (zX rfl rfl rfl) (kc (zX rfl rfl rfl) (RK.c (zA (c:=7) ze98 rfl) (kc (zS ti98 rfl rfl rfl rfl rfl rfl) ?_)))))))))))
 refine kc (za rfl) (kq (kc (zm rfl) (kc (zE rfl rfl) (kc (zm rfl) (kc (S.move (zg rfl rfl) rfl (zt rfl)) (kc (S.mkData (rows:=[[_],[_],[_],[_],[_],[_],[_]]) ai47 (zg rfl rfl) rfl (.cons (.cint rfl) (.cons (.cint rfl) (.cons (.cint rfl) (.cons (.cint rfl) (.cons (.cint rfl) (.cons (.cint rfl) (.cons (.cint rfl) .nil))))))) rfl rfl rfl rfl rfl rfl rfl) (kc (S.call (aw10_ints) Tryz.call26 (zg rfl rfl) rfl (zc rfl (zc rfl .nil)) rfl) (kc (S.pickT .none rfl (zt rfl) (zt rfl) rfl) (kc (zm rfl) (kc (S.move (zg rfl rfl) rfl (zt rfl)) (kc (S.eql (zg rfl rfl) rfl (zt rfl) (.cint rfl)) ?_)))))))))))
 refine kc (S.pickT .none rfl (zt rfl) (zt rfl) rfl) (kc (zm rfl) (kc (S.move (zg rfl rfl) rfl (zt rfl)) (kc (S.seql (zg rfl rfl) rfl (zt rfl) (.cstr (l:=[114,32,49,32,99,32,50,32,48]) rfl (by decide))) (kc (S.pickT .none rfl (zt rfl) (zt rfl) rfl) (kc (zm rfl) (kc (S.move (zg rfl rfl) rfl (zt rfl)) (kc (S.eql (zg rfl rfl) rfl (zt rfl) (.cint rfl)) (kc (S.pickT .none rfl (zt rfl) (zt rfl) rfl) (kc (zm rfl) (kc (S.move (zg rfl rfl) rfl (zt rfl)) (kc (S.eql (zg rfl rfl) rfl (zt rfl) (.cint rfl)) ?_)))))))))))
 refine kc (S.pickT .none rfl (zt rfl) (zt rfl) rfl) (kc (zm rfl) (kc (S.move (zg rfl rfl) rfl (zt rfl)) (kc (S.eql (zg rfl rfl) rfl (zt rfl) (.cint rfl)) (kc (S.pickT .none rfl (zt rfl) (zt rfl) rfl) (kc (zm rfl) (kc (S.bloadN ti98 (zg rfl rfl) rfl (zt rfl) rfl rfl rfl rfl) (kc (S.build bu98 rfl (zg rfl rfl) rfl (.cons (.cint rfl) (.cons (.cint rfl) (.cons (.cint rfl) .nil))) rfl rfl) (kc (S.aeql [2,0,1,1,0,0] [2,0,1,1,0,0] eq98 (zg rfl rfl) rfl (zt rfl) (zt rfl) rfl rfl rfl rfl) (kc (S.pickT .none rfl (zt rfl) (zt rfl) rfl) (kc (za rfl) (kD ?_)))))))))))
 refine OK.ret (Ret.r1 (zo rfl rfl) ?_)
 rfl
theorem law_RecordNets{n:Net}:CtT Tryz.prog 3 [.agg n.cs] (.bool true):=law10_RecordNets law10_awake
end Go.Proofs.YtpbalelbenmmbaaGreatDoor
namespace Go.Proofs.YtpbalelbenmmbaaGreatDoor
open Go.Ab
theorem sh_person{xs:List X}(h:Shape (.st (.cons .str (.cons (.int .i64) .nil))) xs):∃p:Person,xs=p.cs:=by
 obtain⟨a,b,rfl,⟨s,rfl⟩,c,d,rfl,⟨n,rfl⟩,rfl⟩:=h
 exact⟨⟨s,n⟩,rfl⟩
theorem sh_net{xs:List X}(h:Shape (.cons (.sl (.st (.cons .str (.cons (.int .i64) .nil)))) (.cons .str (.cons (.int .i64) (.cons (.st (.cons (.int .i64) (.cons (.int .i64) .nil))) .nil)))) xs):∃p:Net,xs=p.cs:=by
 obtain⟨a,b,rfl,⟨rows,rfl,hr⟩,c,d,rfl,⟨s,rfl⟩,e,f,rfl,⟨n,rfl⟩,g,k,rfl,⟨u,v,rfl,⟨lo,rfl⟩,y,z,rfl,⟨hi,rfl⟩,rfl⟩,rfl⟩:=h
 obtain⟨l,rfl⟩:=rows_of (f:=Person.cs) (fun r h=>sh_person (hr r h))
 exact⟨⟨l,s,n,lo,hi⟩,rfl⟩
end Go.Proofs.YtpbalelbenmmbaaGreatDoor
