import Derived.Test.YtpbalelbenmmbaaGreatDoorHz
import Derived.Test.YtpbalelbenmmbaaGreatDoorGh
import Derived.Test.YtpbalelbenmmbaaGreatDoorHj
import Derived.Test.YtpbalelbenmmbaaGreatDoorMa
import Derived.Test.YtpbalelbenmmbaaGreatDoorMb
import Derived.Test.YtpbalelbenmmbaaGreatDoorRp
import Derived.Test.YtpbalelbenmmbaaGreatDoorTy
import Derived.Test.YtpbalelbenmmbaaGreatDoorWg
namespace Go.Proofs.YtpbalelbenmmbaaGreatDoor
open Go.Ab
def sumT:List UInt8→Int→Int
 |[],a=>a
 |b::l,a=>sumT l ((a * 229+(b.toNat:Int)+1) % 999961)
theorem sumT_drop{l:List UInt8}{i:Nat}(h:i<l.length)(a:Int):sumT (l.drop i) a=sumT (l.drop (i+1)) ((a * 229+(l[i].toNat:Int)+1) % 999961):=by rw[List.drop_eq_getElem_cons h,sumT]
def joinT(l:List Int):List UInt8:=if l.length=0 then [45]else Lib.join (l.map Lib.itoa) [32]
def namedE(name:List UInt8)(ok:Bool):Int:=firstE [unlessE (nameOk name) 4,unlessE ok 6]
def namedT(name:List UInt8)(n:Int)(ok:Bool):List UInt8×Int:=if namedE name ok≠0 then([],namedE name ok)else(joinT [n],0)
def House.numbers(H:House)(g:Part→Bool):List Int:=(H.parts.filter fun q=>g q.1).map fun q=>q.1.num
theorem HA.numbers_plain(A:HA)(g:Part→Bool):A.plain.numbers g=numP g A.parts:=by
 show((A.parts.map fun v=>(v.p,v.es)).filter fun q=>g q.1).map (fun q=>q.1.num)=_
 rw[List.filter_map,List.map_map];rfl
def partStr(p:Part):List UInt8:=Lib.join [p.rcp,joinT [p.ver],p.coil,joinT [p.place,p.verdict]] [32]
def House.shots(H:House)(name:List UInt8):Int×Bool:=match(H.cIx name).bind (H.coils[·]?)with|some q=>(q.1.shots,true)|none=>(0,false)
def House.newest(H:House)(name:List UInt8):Int×Bool:=match(H.vIx name).bind (H.vers[·]?)with|some q=>(q.1.ver,true)|none=>(0,false)
def answerT(H:House)(q:List UInt8):List UInt8×Int:=
 if q=[99,111,117,110,116]then(joinT [H.entries],0)
 else if q=[105,110,115,105,100,101]then(joinT (H.numbers isHereT),0)
 else if(cutC 32 q).2.2=false then([],7)
 else if(cutC 32 q).1=[112,97,114,116]then
  if numOk (cutC 32 q).2.1 7=false then([],7)
  else if findE (atoiV (cutC 32 q).2.1) (H.pIx (atoiV (cutC 32 q).2.1)).isSome≠0 then([],findE (atoiV (cutC 32 q).2.1) (H.pIx (atoiV (cutC 32 q).2.1)).isSome)
  else(partStr (H.p ((H.pIx (atoiV (cutC 32 q).2.1)).getD 0)),0)
 else if(cutC 32 q).1=[115,104,111,116,115]then namedT (cutC 32 q).2.1 (H.shots (cutC 32 q).2.1).1 (H.shots (cutC 32 q).2.1).2
 else if(cutC 32 q).1=[118,101,114,115,105,111,110]then namedT (cutC 32 q).2.1 (H.newest (cutC 32 q).2.1).1 (H.newest (cutC 32 q).2.1).2
 else([],7)
def ansT(n:Net)(l:List Entry)(q:List UInt8):List UInt8×Int:=if(replayT n l).2.2≠0 then([],(replayT n l).2.2)else answerT (replayT n l).1 q
structure Tally where
 started:Int
 under:Int
 inside:Int
 good:Int
 bad:Int
 cut:Int
 deriving DecidableEq
def Tally.cs(c:Tally):List X:=[.int .i64 c.started,.int .i64 c.under,.int .i64 c.inside,.int .i64 c.good,.int .i64 c.bad,.int .i64 c.cut]
def Tally.zero:Tally:=⟨0,0,0,0,0,0⟩
def placesOf(l:List Part)(k:Int):Int:=((l.filter fun p=>decide (p.place=k)).length:Int)
def House.counts(H:House):Tally:=⟨(H.parts.length:Int),placesOf (H.parts.map (·.1)) 0,placesOf (H.parts.map (·.1)) 1,placesOf (H.parts.map (·.1)) 2,placesOf (H.parts.map (·.1)) 3,placesOf (H.parts.map (·.1)) 4⟩
def countsT(n:Net)(l:List Entry):Tally×Int:=if(replayT n l).2.2≠0 then(Tally.zero,(replayT n l).2.2)else((replayT n l).1.counts,0)
def histT(n:Net)(l:List Entry)(num:Int):List Int×Int:=if foundE n l num≠0 then([],foundE n l num)else
 ((((replayT n l).1.parts[((replayT n l).1.pIx num).getD 0]?.map (·.2)).getD []).mergeSort fun x y=>decide (x≤y),0)
theorem findE_0{n:Int}{o:Bool}(h:findE n o=0):o=true:=by
 unfold findE at h
 cases o
 ·exfalso
  by_cases hn:0≤n∧n≤1000000
  ·rw[decide_eq_true hn]at h;exact absurd h (by decide)
  ·rw[decide_eq_false hn]at h;exact absurd h (by decide)
 ·rfl
theorem placesOf_succ{l:List PartA}{i:Nat}(h:i<l.length)(k:Int):placesOf ((l.take (i+1)).map PartA.p) k=if l[i].p.place=k then placesOf ((l.take i).map PartA.p) k+1 else placesOf ((l.take i).map PartA.p) k:=by
 unfold placesOf
 rw[List.take_succ_eq_append_getElem h,List.map_append,List.filter_append,List.length_append]
 by_cases hk:l[i].p.place=k
 ·simp[hk]
 ·simp[hk]
theorem placesOf_le(l:List Part)(k:Int):0≤placesOf l k∧placesOf l k≤l.length:=by
 unfold placesOf
 have:=List.length_filter_le (fun p:Part=>decide (p.place=k)) l
 omega
def countsTo(A:HA)(i:Nat):Tally:=⟨(A.parts.length:Int),placesOf ((A.parts.take i).map PartA.p) 0,placesOf ((A.parts.take i).map PartA.p) 1,placesOf ((A.parts.take i).map PartA.p) 2,placesOf ((A.parts.take i).map PartA.p) 3,placesOf ((A.parts.take i).map PartA.p) 4⟩
theorem countsTo_all(A:HA):countsTo A A.parts.length=A.plain.counts:=by
 unfold countsTo House.counts
 have h1:A.plain.parts.map (·.1)=A.parts.map PartA.p:=by show(A.parts.map fun v=>(v.p,v.es)).map (·.1)=_;rw[List.map_map];rfl
 have h2:A.plain.parts.length=A.parts.length:=List.length_map ..
 rw[List.take_length,h1,h2]
theorem lkBxx{xs ys:List X}(h:xs=ys):some (X.box xs)=some (X.box ys):=by rw[h]
theorem join_len3{sep:List UInt8}{B:Nat}:∀{l:List (List UInt8)},(∀w∈l,w.length≤B)→(Lib.join l sep).length≤l.length * (B+sep.length):=by
 intro l
 induction l with
 |nil=>intro _;simp[Lib.join]
 |cons x r ih=>
  intro h
  have hx:=h x List.mem_cons_self
  have hr:=ih fun w hw=>h w (List.mem_cons_of_mem _ hw)
  cases r with
  |nil=>simp only[Lib.join,List.intercalate,List.intersperse,List.flatten_cons,List.flatten_nil,List.append_nil,List.length_cons,List.length_nil];omega
  |cons y r=>
   rw[join2,List.length_append,List.length_append,List.length_cons,Nat.succ_mul]
   omega
theorem joinT_len{l:List Int}(h:∀n∈l,IntKind.i64.wrap n=n):(joinT l).length≤1+l.length * 22:=by
 unfold joinT
 split
 ·simp
 ·have:=join_len3 (sep:=[32]) (B:=21) (l:=l.map Lib.itoa) fun w hw=>by obtain⟨n,hn,rfl⟩:=List.mem_map.1 hw;exact itoa_len (h n hn)
  rw[List.length_map]at this
  simp only[List.length_cons,List.length_nil]at this
  omega
theorem sortsN{E:Env}{f:Nat}(hf:SortsI E.P f){J:Mem→(Nat→Prop)→World→Prop}:CtJ E f [.raw (.slice none 0 0)] (.tup []) J J:=by
 intro h Y w vs _ hw hY hj hargs
 obtain⟨v,vs',rfl,hv,hvs⟩:=hargs.cons_left
 have hnil:=All2.nil_left hvs
 subst hnil
 have hv':v=.slice none 0 0:=hv
 subst hv'
 refine(hf.none none 0 w).mono ?_
 rintro en w' ⟨rfl,rfl⟩
 exact⟨_,h,Y,rfl,⟨BelX.refl _ _ _,Mem.le_refl _,fun p v e=>.inl e,hw,hY,fun _ hy _=>hy⟩,hj,⟨[],rfl,trivial⟩⟩
theorem part_rng{A:HA}{h:Mem}{Y:Nat→Prop}{w:World}(hj:HeapJ A.mem h Y w){i:Nat}{v:PartA}(hv:A.parts[i]?=some v):IntKind.i64.wrap v.p.ver=v.p.ver∧IntKind.i64.wrap v.p.place=v.p.place∧IntKind.i64.wrap v.p.verdict=v.p.verdict:=by
 obtain⟨_,_,T,vs,_,h2⟩:=hj.1 (.p i) v.b _ (HA.atP? hv)
 have g:∀(k:Nat)(n:Int),v.cs[k]?=some (.int .i64 n)→IntKind.i64.wrap n=n:=fun k n hk=>by
  obtain⟨u,_,hu⟩:=h2.get_right hk
  exact(int_of (RepD.toT (c:=pureC h) hu)).2
 exact⟨g 2 _ rfl,g 5 _ rfl,g 7 _ rfl⟩
theorem partStr_len{p:Part}(h:p.rcp.length≤12∧p.coil.length≤12)(hr:IntKind.i64.wrap p.ver=p.ver∧IntKind.i64.wrap p.place=p.place∧IntKind.i64.wrap p.verdict=p.verdict):(Lib.join [p.rcp,joinT [p.ver],p.coil,joinT [p.place,p.verdict]] [32]).length≤140737488355328:=by
 have h1:=joinT_len (l:=[p.ver]) (by intro n hn;simp at hn;subst hn;exact hr.1)
 have h2:=joinT_len (l:=[p.place,p.verdict]) (by intro n hn;simp at hn;rcases hn with rfl|rfl;exact hr.2.1;exact hr.2.2)
 have h3:=join_len3 (sep:=[32]) (B:=100) (l:=[p.rcp,joinT [p.ver],p.coil,joinT [p.place,p.verdict]]) (by
  intro w hw
  simp only[List.length_cons,List.length_nil]at h1 h2
  simp only[List.mem_cons,List.not_mem_nil,or_false]at hw
  rcases hw with rfl|rfl|rfl|rfl<;>omega)
 simp only[List.length_cons,List.length_nil]at h3
 omega
theorem foundE_0{n:Net}{l:List Entry}{num:Int}(h:foundE n l num=0):(replayT n l).2.2=0:=by
 unfold foundE at h
 by_cases h1:(replayT n l).2.2=0
 ·exact h1
 ·rw[if_pos h1]at h;exact h
theorem foundE_1{n:Net}{l:List Entry}{num:Int}(h:foundE n l num=0):∃i,(replayT n l).1.pIx num=some i:=by
 have h0:=foundE_0 h
 unfold foundE at h
 rw[if_neg (by rw[h0];decide)]at h
 exact Option.isSome_iff_exists.1 (findE_0 h)
theorem fz_hist{M:HM Key}{k:Key}{b cap n:Nat}{l:List Int}(hM:M k=some (b,.row 1 cap (l.map fun n=>[X.int .i64 n])))(hn:l.length=n):FzV M (.raw (.slice (some ⟨b,0,none⟩) n cap)) (ints l):=by
 subst hn
 have ha:∀l:List Int,All2 (All2 (Fz M)) (l.map fun n=>[X.int .i64 n]) (l.map fun n=>[X.int .i64 n]):=by
  intro l
  induction l with
  |nil=>trivial
  |cons x l ih=>exact⟨⟨.same _ rfl,trivial⟩,ih⟩
 have h:=Fz.ofRow (M:=M) (k:=k) (hd:=.slice (some ⟨b,0,none⟩) (l.map fun n=>[X.int .i64 n]).length cap) (sz:=1) (.inr ⟨b,cap,rfl,hM⟩) (ha l) (fun r hr=>by obtain⟨x,_,rfl⟩:=List.mem_map.1 hr;rfl)
 rw[List.length_map]at h
 exact h
theorem rec_sum{l:List UInt8}{a0:Int}(ha:0≤a0∧a0≤999960):Ct Tryz.prog 56 [.str l,.int .i64 a0] (.int .i64 (sumT l a0)):=by
 refine Ct.intro (rs:=[.tmp 4]) Tryz.func56 rfl Tryz.ntmps56 Tryz.results56 rfl rfl rfl fun w h=>?_
 refine OK.strLen (t:=0) (z:=l) rfl rfl fun hlen=>?_
 unfold maxLen at hlen
 refine kr (kc (zi rfl rfl) (kD (kO (kr ?_))))
 refine kc (zm rfl) (kc (S.slen Tryz.underlying9 .none rfl (zt rfl)) (kc (S.move .none rfl (.cint rfl)) (kD (OK.block (OK.loop2 [] (fun(i:Nat)(a:Int)=>[(0,.str l),(1,.int .i64 a),(7,.int .i64 l.length),(8,.int .i64 i)]) (fun i a=>i≤l.length∧(0≤a∧a≤999960)∧sumT l a0=sumT (l.drop i) a) (fun i a=>l.length - i) (0) (a0) ⟨Nat.zero_le _,ha,rfl⟩ ⟨rfl,rfl,rfl,rfl,trivial⟩ (fun _ _=>rfl) ?_)))))
 rintro i a ⟨hi,hab,hg⟩
 refine kr (kc (S.lss .none rfl (zt rfl) (zt rfl)) (kD (kO (kB rfl (fun c9=>?_) (fun c9=>?_)))))
 ·
  have hil:i<l.length:=by omega
  have hub:=UInt8.toNat_lt l[i]
  refine OK.skip (Ab.D.code (kO (OK.block (kr (kc (zm rfl) (kc (za rfl) (RK.nil (Ab.D.code (OK.reg ?_)))))))))
  refine kc (zm rfl) (kc (S.mul .none rfl (zt rfl) (.cint rfl) (IntWalk.i64_in _ (by omega)) (IntWalk.i64_in _ (by omega))) (kc (zm rfl) (kc (zm rfl) (kc (S.stridx (n:=i) str9 .none rfl (zt rfl) (zt rfl) rfl (by omega)) (kc (S.conv .none rfl (zt rfl) Tryz.underlying5 Tryz.underlying3 (IntWalk.i64_in _ (by omega)) (IntWalk.i64_in _ (by omega))) (kc (S.add .none rfl (zt rfl) (zt rfl) (IntWalk.i64_in _ (by omega)) (IntWalk.i64_in _ (by omega))) (kc (zp rfl rfl (by omega)) (kc (S.rem (q:=((a * 229+(l[i].toNat:Int)+1) % 999961)) .none rfl (zt rfl) (.cint rfl) (by decide) (Int.tmod_eq_emod_of_nonneg (by omega)) (IntWalk.i64_in _ (by omega))) (kc (za rfl) (RK.nil (Ab.D.blk ?_)))))))))))
  refine Ab.D.code (OK.reg ?_)
  refine kc (zp rfl rfl (by omega)) (kc (zm rfl) (RK.nil (Ab.D.lp ⟨i+1,((a * 229+(l[i].toNat:Int)+1) % 999961),⟨by omega,by omega,by rw[hg,sumT_drop hil]⟩,(by omega),rfl,rfl,rfl,rfl,trivial⟩)))
 ·
  refine OK.exit rfl (kp (kc (zm rfl) (kc (za rfl) (kD (OK.ret (Ret.r1 (zo rfl rfl) ?_))))))
  refine ret_i ?_
  rw[hg,show i=l.length by omega,List.drop_length,sumT]
theorem rec_SumOf{l:List UInt8}{a:Int}:Ct Tryz.prog 31 [.str l,.int .i64 a] (.tup [.int .i64 (if 0≤a∧a≤999960 then sumT l a else 0),.int .i64 (if 0≤a∧a≤999960 then 0 else 2)]):=by
 refine Ct.intro (rs:=[.tmp 4,.tmp 5]) Tryz.func31 rfl Tryz.ntmps31 Tryz.results31 rfl rfl rfl fun w h=>?_
 refine kr (kc (zi rfl rfl) (kc (zi rfl rfl) (kD (kO (kr ?_)))))
 refine kc (zm rfl) (kc (S.call (rec_within) Tryz.call55 .none rfl (zc rfl (.cons (.cint rfl) (.cons (.cint rfl) .nil))) rfl) (kc (S.notD .none rfl (zt rfl)) (kD (kB rfl (fun c8=>?_) (fun c8=>?_)))))
 ·
  have ha:¬(0≤a∧a≤999960):=by simpa using c8
  refine kr (kc (zi rfl rfl) (kc (zi rfl rfl) (kD (OK.ret (Ret.r2 (zo rfl rfl) (zo rfl rfl) ?_)))))
  rw[if_neg ha,if_neg ha]
 ·
  have ha:0≤a∧a≤999960:=by simpa using c8
  refine OK.skip (kp (kc (zm rfl) (kc (zm rfl) (kc (S.call (rec_sum (by omega)) Tryz.call56 .none rfl (zc rfl (zc rfl .nil)) rfl) (kc (za rfl) (kc (zi rfl rfl) (kD (OK.ret (Ret.r2 (zo rfl rfl) (zo rfl rfl) ?_)))))))))
  rw[if_pos ha,if_pos ha]
theorem rec_joined{l:List Int}(hl:l.length≤1000):CtT Tryz.prog 93 [ints l] (.str (joinT l)):=by
 refine CtT.intro (rs:=[.tmp 2]) Tryz.func93 rfl Tryz.ntmps93 Tryz.results93 rfl rfl rfl fun w h hT=>?_
 refine kr (kc (S.assign .none rfl (.cstr (l:=[]) rfl (by decide))) (kD (kO (kr ?_))))
 refine kc (zm rfl) (kc (zk si47 rfl) (kc (zE rfl rfl) (kD (kB rfl (fun c8=>?_) (fun c8=>?_)))))
 ·
  have h0:l.length=0:=by omega
  refine kr (kc (S.assign .none rfl (.cstr (l:=[45]) rfl (by decide))) (kD (OK.ret (Ret.r1 (zo rfl rfl) ?_))))
  unfold joinT
  rw[if_pos h0]
 ·
  have h0:¬l.length=0:=by omega
  refine OK.skip (kp (RK.c (S.nilOwn (k:=3) (sz:=1) .none rfl) (kD (kO (kr ?_)))))
  refine kc (zm rfl) (kc (zk si47 rfl) (kc (S.move .none rfl (.cint rfl)) (kD (OK.block ?_))))
  refine OK.loop (G:=Nat) [3] (fun i=>[(3,.own 3 i),(2003,.arr 1 (((l.take i).map Lib.itoa).map fun s=>[.str s])),(9,ints l),(10,.int .i64 l.length),(11,.int .i64 i)]) (fun i=>i≤l.length∧∀n∈l.take i,IntKind.i64.wrap n=n) (fun i=>l.length - i) 0 ⟨Nat.zero_le _,fun n h=>by simp at h⟩ ⟨(lk_own (by first|rfl|(simp;done)|(simp;omega))),(lk_arr (by first|rfl|(simp;done)|(simp;omega))),rfl,rfl,rfl,trivial⟩ (fun _=>rfl) ?_
  rintro i ⟨hi,hw⟩
  refine kr (kc (S.lss .none rfl (zt rfl) (zt rfl)) (kD (kO (kB rfl (fun c12=>?_) (fun c12=>?_)))))
  ·
   have hil:i<l.length:=by omega
   refine OK.skip (Ab.D.code (kO (OK.block (kr (kc (S.indexM (n:=i) si47 .none rfl (zt rfl) (zt rfl) rfl (by omega) rfl) (kc (zV ti3 rfl rfl) (kc (za rfl) (kD (OK.intB (t:=5) rfl rfl fun hnw=>?_)))))))))
   have hw2:∀n∈l.take (i+1),IntKind.i64.wrap n=n:=fun n hn=>by
    rw[List.take_succ_eq_append_getElem hil,List.mem_append,List.mem_singleton]at hn
    rcases hn with hn|rfl
    ·exact hw n hn
    ·exact hnw
   refine OK.reg (kc (zm rfl) (kc (zm rfl) (kc (S.callT (itoa_ct hnw) hT Tryz.call142 .none rfl (zc rfl .nil) rfl) (RK.c (S.mkSlice (k:=18) (rows:=[[_]]) ai103 .none rfl (zc rfl .nil) rfl rfl rfl rfl rfl rfl rfl) ?_))))
   refine RK.c (S.append ai103 .none rfl (zt rfl) rfl (by simp;omega) (zt rfl) rfl (by first|rfl|(simp;done)|(simp;omega)) (by omega) (by simp only[maxLen];omega)) ?_
   refine kc (za rfl) (RK.nil (Ab.D.blk (Ab.D.code (OK.reg ?_))))
   refine kc (zp rfl rfl (by omega)) (kc (zm rfl) (RK.nil ?_))
   refine Ab.D.lp ⟨i+1,⟨by omega,hw2⟩,(by omega),(lk_own (by omega)),(lk_arr (by rw[List.take_succ_eq_append_getElem hil,List.map_append,List.map_append];rfl)),rfl,rfl,rfl,trivial⟩
  ·
   refine OK.exit rfl (Ab.D.code (kO ?_))
   have hie:i=l.length:=by omega
   rw[hie,List.take_length]
   rw[hie,List.take_length]at hw
   have hjl:=join_len3 (sep:=[32]) (B:=21) (l:=l.map Lib.itoa) fun w hw2=>by obtain⟨n,hn,rfl⟩:=List.mem_map.1 hw2;exact itoa_len (hw n hn)
   rw[List.length_map]at hjl
   simp only[List.length_cons,List.length_nil]at hjl
   refine OK.reg (kc (zm rfl) ?_)
   refine kc (S.callL (joinI.ct (l:=l.map Lib.itoa) (sep:=[32]) (by rw[List.length_map];omega) (by omega)) Tryz.call96 .none rfl (zc rfl (.cons (.cstr (l:=[32]) rfl (by decide)) .nil)) (.cons (.p (.own rfl (by simp)) rfl) (.cons (.same rfl) .nil)) rfl) ?_
   refine kc (za rfl) (kD (OK.ret (Ret.r1 (zo rfl rfl) ?_)))
   unfold joinT
   rw[if_neg h0]
theorem rec_named{name:List UInt8}{J:Mem→(Nat→Prop)→World→Prop}(hS:Stable J){f:Nat}{caps:List X}(hcall:∀args w,(callFunc f args).run Tryz.prog w=.ok (.enter f args) w)(hc1:caps.all (okP [])=true)(hc2:caps.all (fun u=>!notCell u)=true){v:Int}{ok:Bool}(hf:CtG Tryz.prog f [] (.str name::caps) [(3000,.res J)] [(3000,.res J)] (.tup [.int .i64 v,.bool ok])):CtGT Tryz.prog 97 [] [.str name,.fn f caps] [(3000,.res J)] [(3000,.res J)] (.tup [.str (namedT name v ok).1,.int .i64 (namedT name v ok).2]):=by
 refine CtGT.intro (rs:=[.tmp 4,.tmp 5]) Tryz.func97 rfl Tryz.ntmps97 Tryz.results97 rfl rfl rfl rfl fun w h hT=>?_
 refine kr (kc (S.assign .none rfl (.cstr (l:=[]) rfl (by decide))) (kc (zi rfl rfl) (kq (kc (zm rfl) (kc (zm rfl) (RK.c (S.callvJ ((hf.atJ hS)) hS hcall .none rfl (zt rfl) (zc rfl .nil) rfl rfl hc1 hc2) (kc (zm rfl) (kc (zX rfl rfl rfl) (kc (zX rfl rfl rfl) (kc (za rfl) (kc (za rfl) ?_)))))))))))
 refine kD (kO (kr ?_))
 refine kc (zm rfl) (kc (S.call (rec_isName) Tryz.call65 .none rfl (zc rfl .nil) rfl) (kc (S.call (record_unless) Tryz.call58 .none rfl (zc rfl (.cons (.cint rfl) .nil)) rfl) (kc (zm rfl) (kc (S.call (record_unless) Tryz.call58 .none rfl (zc rfl (.cons (.cint rfl) .nil)) rfl) (RK.c (S.mkSlice (k:=20) (rows:=[[_],[_]]) ai184 .none rfl (zc rfl (zc rfl .nil)) rfl rfl rfl rfl rfl rfl rfl) (kc (S.callL (record_first (l:=[_,_])) Tryz.call57 .none rfl (zc rfl .nil) (.cons (.p (.own rfl rfl) rfl) .nil) rfl) (kc (za rfl) (kq (kc (zm rfl) (kc (zN rfl rfl) (kD ?_)))))))))))
 refine kB rfl (fun c23=>?_) (fun c23=>?_)
 ·
  have hN:namedT name v ok=([],namedE name ok):=by unfold namedT;rw[if_pos (show namedE name ok≠0 from c23)]
  refine kr (kc (zm rfl) (kc (S.assign .none rfl (.cstr (l:=[]) rfl (by decide))) (kc (za rfl) (kD (OK.ret ⟨Ret.r2 (zo rfl rfl) (zo rfl rfl) ?_,rfl,trivial⟩)))))
  rw[hN]
  rfl
 ·
  have hN:namedT name v ok=(joinT [v],0):=by unfold namedT;rw[if_neg (show¬namedE name ok≠0 from c23)]
  refine OK.skip (kp (kc (zm rfl) (RK.c (S.mkSlice (k:=26) (rows:=[[_]]) ai47 .none rfl (zc rfl .nil) rfl rfl rfl rfl rfl rfl rfl) (kc (S.callLT (rec_joined (l:=[v]) (by simp)) hT Tryz.call93 .none rfl (zc rfl .nil) (.cons (.p (.own rfl rfl) rfl) .nil) rfl) ?_))))
  refine kc (za rfl) (kc (zi rfl rfl) (kD (OK.ret ⟨Ret.r2 (zo rfl rfl) (zo rfl rfl) ?_,rfl,trivial⟩)))
  rw[hN]
theorem rec_answer1{A:HA}{m:Int}(hok:A.Ok m){name:List UInt8}{J:Mem→(Nat→Prop)→World→Prop}(hS:Stable J)(hJ:∀h Y w,J h Y w→HeapJ A.mem h Y w):CtG Tryz.prog 98 [] [.str name,.eptr [.raw (pV A.b)]] [(3000,.res J)] [(3000,.res J)] (.tup [.int .i64 (A.plain.shots name).1,.bool (A.plain.shots name).2]):=by
 refine CtG.intro (rs:=[.tmp 3,.tmp 4]) Tryz.func98 rfl Tryz.ntmps98 Tryz.results98 rfl rfl rfl rfl fun w h=>?_
 have hp3:=HA.cIx_plain A name
 refine kr (kc (zi rfl rfl) (kc (zb rfl) (kq (kc (zV ti113 rfl rfl) (kc (zm rfl) (RK.c (S.callJ (((rec_coil hok hS hJ).atJ hS)) hS Tryz.call99 .none rfl (zc rfl (zc rfl .nil)) rfl rfl) (kc (za rfl) (kD (kO (kr ?_))))))))))
 refine kc (zm rfl) (kc (S.peqn Tryz.underlying196 .none rfl (zt rfl)) (kD (OK.cond rfl rfl (fun c10=>?_) (fun c10=>?_))))
 ·
  have hN:=opt_none c10
  have hr:A.plain.shots name=(0,false):=by unfold House.shots;rw[hp3,hN];rfl
  refine kr (kc (zi rfl rfl) (kc (zb rfl) (kD (OK.ret ⟨Ret.r2 (zo rfl rfl) (zo rfl rfl) ?_,rfl,trivial⟩))))
  rw[hr]
 ·
  obtain⟨j,hj⟩:=opt_someF c10
  obtain⟨cc,hcc⟩:=at_of_lt (ix_some hj).1
  rw[optP_at hj (HA.cb? hcc)]
  have hr:A.plain.shots name=(cc.c.shots,true):=by unfold House.shots;rw[hp3,hj];simp only[Option.bind_some,HA.plain_coil hcc]
  refine OK.skip (kp (kc (zm rfl) (kc (zn rfl rfl) (kc (zr fi201_0 rfl) (kc (zr fi199_2 rfl) (kc (S.rload1 ti3 .none rfl (zt rfl) rfl (ldJ hJ (HeapJ.ld1 (k:=.c j) (HA.atC? hcc) rfl (.same _)))) (kc (za rfl) (kc (zb rfl) (kD (OK.ret ⟨Ret.r2 (zo rfl rfl) (zo rfl rfl) ?_,rfl,trivial⟩))))))))))
  rw[hr]
theorem rec_answer2{A:HA}{m:Int}(hok:A.Ok m){name:List UInt8}{J:Mem→(Nat→Prop)→World→Prop}(hS:Stable J)(hJ:∀h Y w,J h Y w→HeapJ A.mem h Y w):CtG Tryz.prog 100 [] [.str name,.eptr [.raw (pV A.b)]] [(3000,.res J)] [(3000,.res J)] (.tup [.int .i64 (A.plain.newest name).1,.bool (A.plain.newest name).2]):=by
 refine CtG.intro (rs:=[.tmp 3,.tmp 4]) Tryz.func100 rfl Tryz.ntmps100 Tryz.results100 rfl rfl rfl rfl fun w h=>?_
 have hp2:=HA.vIx_plain A name
 refine kr (kc (zi rfl rfl) (kc (zb rfl) (kq (kc (zV ti113 rfl rfl) (kc (zm rfl) (RK.c (S.callJ (((rec_recipe hok hS hJ).atJ hS)) hS Tryz.call101 .none rfl (zc rfl (zc rfl .nil)) rfl rfl) (kc (za rfl) (kD (kO (kr ?_))))))))))
 refine kc (zm rfl) (kc (S.peqn Tryz.underlying126 .none rfl (zt rfl)) (kD (OK.cond rfl rfl (fun c10=>?_) (fun c10=>?_))))
 ·
  have hN:=opt_none c10
  have hr:A.plain.newest name=(0,false):=by unfold House.newest;rw[hp2,hN];rfl
  refine kr (kc (zi rfl rfl) (kc (zb rfl) (kD (OK.ret ⟨Ret.r2 (zo rfl rfl) (zo rfl rfl) ?_,rfl,trivial⟩))))
  rw[hr]
 ·
  obtain⟨k,hk⟩:=opt_someF c10
  obtain⟨hk1,_⟩:=lastIx_some hk
  obtain⟨vv,hvv⟩:=at_of_lt hk1
  rw[optP_at hk (HA.vb? hvv)]
  have hr:A.plain.newest name=(vv.r.ver,true):=by unfold House.newest;rw[hp2,hk];simp only[Option.bind_some,HA.plain_ver hvv]
  refine OK.skip (kp (kc (zm rfl) (kc (zn rfl rfl) (kc (zr fi135_0 rfl) (kc (zr fi133_0 rfl) (kc (zr fi59_1 rfl) (kc (S.rload1 ti3 .none rfl (zt rfl) rfl (ldJ hJ (HeapJ.ld1 (k:=.v k) (HA.atV? hvv) rfl (.same _)))) (kc (za rfl) (kc (zb rfl) (kD (OK.ret ⟨Ret.r2 (zo rfl rfl) (zo rfl rfl) ?_,rfl,trivial⟩)))))))))))
  rw[hr]
set_option maxHeartbeats 2000000 in
theorem rec_answer{A:HA}{m:Int}(hok:A.Ok m){q:List UInt8}(hq:q.length≤100000):CtGT Tryz.prog 64 [] [.raw (pV A.b),.str q] [(3000,.res (HeapJ A.mem))] [(3000,.res (HeapJ A.mem))] (.tup [.str (answerT A.plain q).1,.int .i64 (answerT A.plain q).2]):=by
 refine CtGT.intro (rs:=[.tmp 4,.tmp 5]) Tryz.func64 rfl Tryz.ntmps64 Tryz.results64 rfl rfl rfl rfl fun w h hT=>?_
 have hlp:=hok.lp
 have hm0:=hok.m0
 have hcl:=cut_le (c:=32) (l:=q)
 have hnl:=numP_len isHereT A.parts
 have hpx:=HA.pIx_plain A (atoiV (cutC 32 q).2.1)
 refine kr (RK.c (zB (c:=2) rfl rfl) (kc (S.assign .none rfl (.cstr (l:=[]) rfl (by decide))) (kc (zi rfl rfl) (kD (kO (kO (OK.freezeP [] [(1,.str q),(3000,.res (HeapJ A.mem))] 2 rfl rfl rfl rfl rfl rfl ⟨rfl,rfl,trivial⟩ rfl (OK.reg (kc (zm rfl) (kD (OK.block ?_)))))))))))
 refine kr (kc (S.seql .none rfl (zt rfl) (.cstr (l:=[99,111,117,110,116]) rfl (by decide))) (kc (za rfl) (kD (kB rfl (fun c14=>?_) (fun c14=>?_)))))
 ·
  refine kr (kc (zV ti113 rfl rfl) (kc (zn rfl rfl) (kc (zr fi130_7 rfl) (kc (S.rload1 ti3 .none rfl (zt rfl) rfl (HeapJ.ld1 (k:=.house) rfl rfl (.same _))) (RK.c (S.mkSlice (k:=20) (rows:=[[_]]) ai47 .none rfl (zc rfl .nil) rfl rfl rfl rfl rfl rfl rfl) (kc (S.callLT (rec_joined (l:=[A.entries]) (by simp)) hT Tryz.call93 .none rfl (zc rfl .nil) (.cons (.p (.own rfl rfl) rfl) .nil) rfl) ?_))))))
  refine kc (za rfl) (kc (zi rfl rfl) (kD (OK.ret ⟨Ret.r2 (zo rfl rfl) (zo rfl rfl) ?_,rfl,trivial⟩)))
  unfold answerT
  simp_all
  all_goals first|done|rfl|(rw[HA.numbers_plain];done)|(rw[HA.p_at hv];rfl)
 ·
  refine kr (kc (S.seql .none rfl (zt rfl) (.cstr (l:=[105,110,115,105,100,101]) rfl (by decide))) (kc (za rfl) (kD (kB rfl (fun c22=>?_) (fun c22=>?_)))))
  ·
   refine kr (kc (zV ti113 rfl rfl) (kc (S.callR ((fun J hS hJ=>(rec_numbers hok hS hJ (f:=94) (caps:=[]) Tryz.call94 rfl rfl (g:=isHereT) (fun i v hv=>rec_isHere hv hS hJ)).atJ hS)) Tryz.call53 .none rfl (zc rfl (.cons .cfn .nil)) rfl rfl) ?_))
   refine kc (S.callT (rec_joined (l:=numP isHereT A.parts) (by omega)) hT Tryz.call93 .none rfl (zc rfl .nil) rfl) (kc (za rfl) (kc (zi rfl rfl) (kD (OK.ret ⟨Ret.r2 (zo rfl rfl) (zo rfl rfl) ?_,rfl,trivial⟩))))
   unfold answerT
   simp_all
   all_goals first|done|rfl|(rw[HA.numbers_plain];done)|(rw[HA.p_at hv];rfl)
  ·
   refine OK.skip (Ab.D.blk (kp (kc (zm rfl) (kc (S.call (str_Cut (l:=q) (c:=32) hq) Tryz.call75 .none rfl (zc rfl (.cons (.cstr (l:=[32]) rfl (by decide)) .nil)) rfl) (kc (zm rfl) (kc (zX rfl rfl rfl) (kc (zX rfl rfl rfl) (kc (zX rfl rfl rfl) (kc (za rfl) (kc (za rfl) (kc (za rfl) ?_)))))))))))
   refine kD (kO (kr ?_))
   refine kc (zm rfl) (kc (S.not .none rfl (zt rfl)) (kD (OK.cond rfl rfl (fun c34=>?_) (fun c34=>?_))))
   ·
    refine kr (kc (S.assign .none rfl (.cstr (l:=[]) rfl (by decide))) (kc (zi rfl rfl) (kD (OK.ret ⟨Ret.r2 (zo rfl rfl) (zo rfl rfl) ?_,rfl,trivial⟩))))
    unfold answerT
    simp_all
    all_goals first|done|rfl|(rw[HA.numbers_plain];done)|(rw[HA.p_at hv];rfl)
   ·
    refine OK.skip (Ab.D.code (kO (kr ?_)))
    refine kc (zm rfl) (kD (OK.block (kr (kc (S.seql .none rfl (zt rfl) (.cstr (l:=[112,97,114,116]) rfl (by decide))) (kc (za rfl) (kD (kB rfl (fun c36=>?_) (fun c36=>?_))))))))
    ·
     refine kr (kc (zm rfl) (kc (S.callT (rec_natural (l:=(cutC 32 q).2.1) (by omega)) hT Tryz.call95 .none rfl (zc rfl .nil) rfl) (kc (zm rfl) (kc (zX rfl rfl rfl) (kc (zX rfl rfl rfl) (kc (za rfl) (kc (za rfl) (kD (kO (kr ?_))))))))))
     refine kc (zm rfl) (kc (S.not .none rfl (zt rfl)) (kD (OK.cond rfl rfl (fun c44=>?_) (fun c44=>?_))))
     ·
      refine kr (kc (S.assign .none rfl (.cstr (l:=[]) rfl (by decide))) (kc (zi rfl rfl) (kD (OK.ret ⟨Ret.r2 (zo rfl rfl) (zo rfl rfl) ?_,rfl,trivial⟩))))
      unfold answerT
      simp_all
      all_goals first|done|rfl|(rw[HA.numbers_plain];done)|(rw[HA.p_at hv];rfl)
     ·
      refine OK.skip (kp (kc (zV ti113 rfl rfl) (kc (zm rfl) (kc (S.callR ((fun J hS hJ=>(rec_find hok hS hJ).atJ hS)) Tryz.call86 .none rfl (zc rfl (zc rfl .nil)) rfl rfl) ?_))))
      refine kc (zm rfl) (kc (zX rfl rfl rfl) (kc (zX rfl rfl rfl) (kc (za rfl) (kc (za rfl) (kD (kO (kr ?_)))))))
      refine kc (zm rfl) (kc (zN rfl rfl) (kD (kB rfl (fun c52=>?_) (fun c52=>?_))))
      ·
       refine kr (kc (zm rfl) (kc (S.assign .none rfl (.cstr (l:=[]) rfl (by decide))) (kc (za rfl) (kD (OK.ret ⟨Ret.r2 (zo rfl rfl) (zo rfl rfl) ?_,rfl,trivial⟩)))))
       unfold answerT
       simp_all
       all_goals first|done|rfl|(rw[HA.numbers_plain];done)|(rw[HA.p_at hv];rfl)
      ·
       have ho:=findE_0 (Decidable.not_not.1 c52)
       obtain⟨i,hpi⟩:=Option.isSome_iff_exists.1 ho
       obtain⟨v,hv⟩:=at_of_lt (ix_some hpi).1
       rw[optP_at hpi (HA.pb? hv)]
       refine OK.resFact (p:=IntKind.i64.wrap v.p.ver=v.p.ver∧IntKind.i64.wrap v.p.place=v.p.place∧IntKind.i64.wrap v.p.verdict=v.p.verdict) rfl (fun h Y w hj=>part_rng hj hv) fun hrg=>?_
       have hjl:(Lib.join [v.p.rcp,joinT [v.p.ver],v.p.coil,joinT [v.p.place,v.p.verdict]] [32]).length≤140737488355328:=partStr_len (hok.nl v (List.mem_of_getElem? hv)) hrg
       refine OK.skip (Ab.D.code (kO (OK.regionDraw follows (.c (zm rfl) (.c (zn rfl rfl) (.c (zr fi123_0 rfl) (.c (zr fi68_1 rfl) (.c (zr fi59_0 rfl) (.c (S.rload1 ti9 .none rfl (zt rfl) rfl (HeapJ.ld1 (k:=.p i) (HA.atP? hv) rfl (.same _))) (.c (zm rfl) (.c (zn rfl rfl) (.c (zr fi123_0 rfl) (.c (zr fi68_1 rfl) (.c (zr fi59_1 rfl) (.c (S.rload1 ti3 .none rfl (zt rfl) rfl (HeapJ.ld1 (k:=.p i) (HA.atP? hv) rfl (.same _))) (.c (S.mkSlice (k:=66) (rows:=[[_]]) ai47 .none rfl (zc rfl .nil) rfl rfl rfl rfl rfl rfl rfl) (.c (S.callLT (rec_joined (l:=[v.p.ver]) (by simp)) hT Tryz.call93 .none rfl (zc rfl .nil) (.cons (.p (.own rfl rfl) rfl) .nil) rfl) (.c (zm rfl) (.c (zn rfl rfl) (.c (zr fi123_0 rfl) (.c (zr fi68_2 rfl) (.c (S.rload1 ti9 .none rfl (zt rfl) rfl (HeapJ.ld1 (k:=.p i) (HA.atP? hv) rfl (.same _))) (.c (zm rfl) (.c (zn rfl rfl) (.c (zr fi123_0 rfl) (.c (zr fi68_4 rfl) (.c (S.rload1 ti3 .none rfl (zt rfl) rfl (HeapJ.ld1 (k:=.p i) (HA.atP? hv) rfl (.same _))) (.c (zm rfl) (.c (zn rfl rfl) (.c (zr fi123_0 rfl) (.c (zr fi68_6 rfl) (.c (S.rload1 ti3 .none rfl (zt rfl) rfl (HeapJ.ld1 (k:=.p i) (HA.atP? hv) rfl (.same _))) (.c (S.mkSlice (k:=83) (rows:=[[_],[_]]) ai47 .none rfl (zc rfl (zc rfl .nil)) rfl rfl rfl rfl rfl rfl rfl) (.c (S.callLT (rec_joined (l:=[v.p.place,v.p.verdict]) (by simp)) hT Tryz.call93 .none rfl (zc rfl .nil) (.cons (.p (.own rfl rfl) rfl) .nil) rfl) (.c (S.mkSlice (k:=85) (rows:=[[_],[_],[_],[_]]) ai103 .none rfl (zc rfl (zc rfl (zc rfl (zc rfl .nil)))) rfl rfl rfl rfl rfl rfl rfl) (.c (S.callL (joinI.ct (l:=[v.p.rcp,joinT [v.p.ver],v.p.coil,joinT [v.p.place,v.p.verdict]]) (sep:=[32]) (by simp) (hjl)) Tryz.call96 .none rfl (zc rfl (.cons (.cstr (l:=[32]) rfl (by decide)) .nil)) (.cons (.p (.own rfl rfl) rfl) (.cons (.same rfl) .nil)) rfl) (.c (za rfl) (.c (zi rfl rfl) .nil))))))))))))))))))))))))))))))))))) (by kernel_rfl) ?_)))
       refine Ab.D.code (OK.ret ⟨Ret.r2 (zo rfl rfl) (zo rfl rfl) ?_,rfl,trivial⟩)
       unfold answerT
       simp_all
       all_goals first|done|rfl|(rw[HA.numbers_plain];done)|(rw[HA.p_at hv];rfl)
    ·
     refine kr (kc (S.seql .none rfl (zt rfl) (.cstr (l:=[115,104,111,116,115]) rfl (by decide))) (kc (za rfl) (kD (kB rfl (fun c87=>?_) (fun c87=>?_)))))
     ·
      refine kr (kc (zm rfl) (kc (S.makeFunc1 .none rfl (zt rfl) rfl) (RK.c (S.callJ (((rec_named (name:=(cutC 32 q).2.1) (J:=HeapJ A.mem) (HeapJ.stable _) (f:=98) (caps:=[.eptr [.raw (pV A.b)]]) Tryz.call98 rfl rfl (rec_answer1 hok (HeapJ.stable _) (fun _ _ _ h=>h))).atJ hT (HeapJ.stable _))) (HeapJ.stable _) Tryz.call97 .none rfl (zc rfl (zc rfl .nil)) rfl rfl) ?_)))
      refine kc (zX rfl rfl rfl) (kc (zX rfl rfl rfl) (kc (za rfl) (kc (za rfl) (kD (OK.ret ⟨Ret.r2 (zo rfl rfl) (zo rfl rfl) ?_,rfl,trivial⟩)))))
      unfold answerT
      simp_all
      all_goals first|done|rfl|(rw[HA.numbers_plain];done)|(rw[HA.p_at hv];rfl)
     ·
      refine kr (kc (S.seql .none rfl (zt rfl) (.cstr (l:=[118,101,114,115,105,111,110]) rfl (by decide))) (kc (za rfl) (kD (kB rfl (fun c94=>?_) (fun c94=>?_)))))
      ·
       refine kr (kc (zm rfl) (kc (S.makeFunc1 .none rfl (zt rfl) rfl) (RK.c (S.callJ (((rec_named (name:=(cutC 32 q).2.1) (J:=HeapJ A.mem) (HeapJ.stable _) (f:=100) (caps:=[.eptr [.raw (pV A.b)]]) Tryz.call100 rfl rfl (rec_answer2 hok (HeapJ.stable _) (fun _ _ _ h=>h))).atJ hT (HeapJ.stable _))) (HeapJ.stable _) Tryz.call97 .none rfl (zc rfl (zc rfl .nil)) rfl rfl) ?_)))
       refine kc (zX rfl rfl rfl) (kc (zX rfl rfl rfl) (kc (za rfl) (kc (za rfl) (kD (OK.ret ⟨Ret.r2 (zo rfl rfl) (zo rfl rfl) ?_,rfl,trivial⟩)))))
       unfold answerT
       simp_all
       all_goals first|done|rfl|(rw[HA.numbers_plain];done)|(rw[HA.p_at hv];rfl)
      ·
       refine OK.skip (Ab.D.blk (kp (kc (S.assign .none rfl (.cstr (l:=[]) rfl (by decide))) (kc (zi rfl rfl) (kD (OK.ret ⟨Ret.r2 (zo rfl rfl) (zo rfl rfl) ?_,rfl,trivial⟩))))))
       unfold answerT
       simp_all
       all_goals first|done|rfl|(rw[HA.numbers_plain];done)|(rw[HA.p_at hv];rfl)
theorem rec_Answer{n:Net}{l:List Entry}(hp:n.plan.length≤1000)(hE:EffIn l){q:List UInt8}(hq:q.length≤100000):CtT Tryz.prog 40 [.agg n.cs,.sl (l.map Entry.cs),.str q] (.tup [.str (ansT n l q).1,.int .i64 (ansT n l q).2]):=by
 refine CtT.intro (rs:=[.tmp 6,.tmp 7]) Tryz.func40 rfl Tryz.ntmps40 Tryz.results40 rfl rfl rfl fun w h hT=>?_
 refine kr (RK.c (zB (c:=3) rfl rfl) (kc (S.assign .none rfl (.cstr (l:=[]) rfl (by decide))) (kc (zi rfl rfl) (kq (kc (zL ti26 rfl rfl rfl rfl) (kc (zm rfl) (RK.callXA (((rec_replay hp hE).at hT)) (fun _=>JLA.stable _ _ _) (fun _=>JLA.mono) Tryz.call45 rfl (zc rfl (zc rfl .nil)) rfl fun A=>?_)))))))
 refine kc (zm rfl) (kc (zX rfl rfl rfl) (kc (zX rfl rfl rfl) (kc (zX rfl rfl rfl) (kc (za rfl) (kc (za rfl) (kc (za rfl) (kD (kO (kr ?_)))))))))
 refine kc (zm rfl) (kc (zN rfl rfl) (kD (kB rfl (fun c19=>?_) (fun c19=>?_))))
 ·
  refine kr (kc (zm rfl) (kc (S.assign .none rfl (.cstr (l:=[]) rfl (by decide))) (kc (za rfl) (kD (OK.ret (Ret.r2 (zo rfl rfl) (zo rfl rfl) ?_))))))
  unfold ansT
  rw[if_pos c19]
 ·
  have he0:(replayT n l).2.2=0:=Decidable.not_not.1 c19
  refine OK.skip (Ab.D.code (kO (OK.resJLA he0 rfl fun hok hpl=>?_)))
  rw[retP_0 he0]
  refine OK.reg (kc (zm rfl) (kc (zm rfl) (RK.c (S.callJ (((rec_answer hok hq).atJ hT (HeapJ.stable _))) (HeapJ.stable _) Tryz.call64 .none rfl (zc rfl (zc rfl .nil)) rfl rfl) (kc (zX rfl rfl rfl) (kc (zX rfl rfl rfl) (kc (za rfl) (kc (za rfl) (kD (OK.ret (Ret.r2 (zo rfl rfl) (zo rfl rfl) ?_))))))))))
  unfold ansT
  rw[if_neg c19,hpl]
set_option maxHeartbeats 2000000 in
theorem rec_CountsOf{n:Net}{l:List Entry}(hp:n.plan.length≤1000)(hE:EffIn l):CtT Tryz.prog 41 [.agg n.cs,.sl (l.map Entry.cs)] (.tup [.agg (countsT n l).1.cs,.int .i64 (countsT n l).2]):=by
 refine CtT.intro (rs:=[.cell 4 98,.tmp 5]) Tryz.func41 rfl Tryz.ntmps41 Tryz.results41 rfl rfl rfl fun w h hT=>?_
 refine kr (RK.c (zB (c:=2) rfl rfl) (RK.c (zA (c:=4) ze98 rfl) (kc (zi rfl rfl) (kq (kc (zL ti26 rfl rfl rfl rfl) (kc (zm rfl) (RK.callXA (((rec_replay hp hE).at hT)) (fun _=>JLA.stable _ _ _) (fun _=>JLA.mono) Tryz.call45 rfl (zc rfl (zc rfl .nil)) rfl fun A=>?_)))))))
 refine kc (zm rfl) (kc (zX rfl rfl rfl) (kc (zX rfl rfl rfl) (kc (zX rfl rfl rfl) (kc (za rfl) (kc (za rfl) (kc (za rfl) (kD (kO (kr ?_)))))))))
 refine kc (zm rfl) (kc (zN rfl rfl) (kD (kB rfl (fun c21=>?_) (fun c21=>?_))))
 ·
  refine kr (kc (S.build bu98 rfl .none rfl .nil rfl rfl) (kc (zm rfl) (kc (zS ti98 rfl rfl rfl rfl rfl rfl) (kc (za rfl) (kD (OK.ret (Ret.r2 (.cellN rfl rfl rfl rfl ti98 rfl (.k (.same rfl) (.k (.same rfl) (.k (.same rfl) (.k (.same rfl) (.k (.same rfl) (.k (.same rfl) .z))))))) (zo rfl rfl) ?_)))))))
  unfold countsT
  rw[if_pos c21]
  all_goals rfl
 ·
  have he0:(replayT n l).2.2=0:=Decidable.not_not.1 c21
  refine OK.skip (Ab.D.code (kO (OK.resJLA he0 rfl fun hok hpl=>?_)))
  rw[retP_0 he0]
  have hlp:=hok.lp
  have hm0:=hok.m0
  refine OK.reg (kc (zm rfl) (kc (zn rfl rfl) (kc (zr fi130_3 rfl) (kc (S.rload1 (u:=.sl (A.parts.map pRow)) ti128 .none rfl (zt rfl) rfl (HeapJ.ld1 (k:=.house) rfl rfl (.sl hok.ps))) (kc (zk si128 rfl) (kc (S.build bu98 rfl .none rfl (zc rfl .nil) rfl rfl) (RK.c (zA (c:=9) ze98 rfl) (kc (zS ti98 rfl rfl rfl rfl rfl rfl) (kq (kc (zf fi98_1 rfl) (kc (zf fi98_2 rfl) ?_)))))))))))
  refine kc (zf fi98_3 rfl) (kc (zf fi98_4 rfl) (kc (zf fi98_5 rfl) (kc (S.build bu149 rfl .none rfl (zc rfl (zc rfl (zc rfl (zc rfl (zc rfl .nil))))) rfl rfl) (RK.c (zA (c:=10) ze149 rfl) (kc (zS ti149 rfl rfl rfl rfl rfl rfl) (kD (kO (kr ?_))))))))
  refine kc (zm rfl) (kc (zn rfl rfl) (kc (zr fi130_3 rfl) (kc (S.rload1 (u:=.sl (A.parts.map pRow)) ti128 .none rfl (zt rfl) rfl (HeapJ.ld1 (k:=.house) rfl rfl (.sl hok.ps))) (kc (zk si128 rfl) (kc (S.move .none rfl (.cint rfl)) (kD (OK.block ?_)))))))
  refine OK.loop (G:=Nat) [4,9,10] (fun i=>[(4,.ptr 4 0),(1004,.box [.int .i64 0,.int .i64 0,.int .i64 0,.int .i64 0,.int .i64 0,.int .i64 0]),(9,.ptr 9 0),(1009,.box (countsTo A i).cs),(10,.ptr 10 0),(1010,.box [.ptr 9 1,.ptr 9 2,.ptr 9 3,.ptr 9 4,.ptr 9 5]),(39,.sl (A.parts.map pRow)),(40,.int .i64 A.parts.length),(41,.int .i64 i),(3000,.res (HeapJ A.mem))]) (fun i=>i≤A.parts.length) (fun i=>A.parts.length - i) 0 (Nat.zero_le _) ⟨rfl,rfl,rfl,(lkBxx (by unfold countsTo;rw[List.take_zero];rfl)),rfl,rfl,rfl,rfl,rfl,rfl,trivial⟩ (fun _=>rfl) ?_
  rintro i hi
  refine kr (kc (S.lss .none rfl (zt rfl) (zt rfl)) (kD (kO (kB rfl (fun c42=>?_) (fun c42=>?_)))))
  ·
   have hil:i<A.parts.length:=by omega
   obtain⟨v,hv⟩:=at_of_lt hil
   have hvg:A.parts[i]=v:=by rw[List.getElem?_eq_getElem hil]at hv;exact Option.some.inj hv
   have hpv:=hok.pl v (List.mem_of_getElem? hv)
   have hb:=fun k=>placesOf_le ((A.parts.take i).map PartA.p) k
   have hb0:=hb 0
   have hb1:=hb 1
   have hb2:=hb 2
   have hb3:=hb 3
   have hb4:=hb 4
   rw[List.length_map,List.length_take]at hb0 hb1 hb2 hb3 hb4
   have q0:(countsTo A i).under=placesOf ((A.parts.take i).map PartA.p) 0:=rfl
   have q1:(countsTo A i).inside=placesOf ((A.parts.take i).map PartA.p) 1:=rfl
   have q2:(countsTo A i).good=placesOf ((A.parts.take i).map PartA.p) 2:=rfl
   have q3:(countsTo A i).bad=placesOf ((A.parts.take i).map PartA.p) 3:=rfl
   have q4:(countsTo A i).cut=placesOf ((A.parts.take i).map PartA.p) 4:=rfl
   refine OK.skip (Ab.D.code (kO (OK.block (kr (kc (S.indexM (n:=i) si128 .none rfl (zt rfl) (zt rfl) rfl (by omega) rfl) (kc (zV ti119 rfl rfl) (kc (za rfl) (kD ?_))))))))
   rcases(show v.p.place=0∨v.p.place=1∨v.p.place=2∨v.p.place=3∨v.p.place=4 by omega)with h5|h5|h5|h5|h5
   ·
    have hcs:[X.int .i64 (A.parts.length:Int),.int .i64 (placesOf ((A.parts.take i).map PartA.p) 0+1),.int .i64 (placesOf ((A.parts.take i).map PartA.p) 1),.int .i64 (placesOf ((A.parts.take i).map PartA.p) 2),.int .i64 (placesOf ((A.parts.take i).map PartA.p) 3),.int .i64 (placesOf ((A.parts.take i).map PartA.p) 4)]=(countsTo A (i+1)).cs:=by unfold countsTo Tally.cs;simp only[placesOf_succ hil,hvg,h5];simp
    rw[hvg]
    refine OK.reg (kc (zm rfl) (kc (zn rfl rfl) (kc (zr fi123_0 rfl) (kc (zr fi68_4 rfl) (kc (S.rload1 ti3 .none rfl (zt rfl) rfl (HeapJ.ld1 (k:=.p i) (HA.atP? hv) rfl (.same _))) (kc (S.bindex (i:=0) Tryz.underlying149 Tryz.sizeOf148 .none rfl (zt rfl) (zt rfl) h5 (by decide)) (kc (zl ti148 rfl rfl rfl rfl) (kc (S.nilCheckB .none rfl (zt rfl)) (kc (zl ti3 rfl rfl rfl rfl) (kc (zp rfl rfl (by omega)) (kc (S.nilCheckB .none rfl (zt rfl)) ?_)))))))))))
    refine kc (zS ti3 rfl rfl rfl rfl rfl rfl) (RK.nil (Ab.D.blk (Ab.D.code (OK.reg ?_))))
    refine kc (zp rfl rfl (by omega)) (kc (zm rfl) (RK.nil (Ab.D.lp ⟨i+1,(by omega),(by omega),rfl,rfl,rfl,(lkBxx hcs),rfl,rfl,rfl,rfl,rfl,rfl,trivial⟩)))
   ·
    have hcs:[X.int .i64 (A.parts.length:Int),.int .i64 (placesOf ((A.parts.take i).map PartA.p) 0),.int .i64 (placesOf ((A.parts.take i).map PartA.p) 1+1),.int .i64 (placesOf ((A.parts.take i).map PartA.p) 2),.int .i64 (placesOf ((A.parts.take i).map PartA.p) 3),.int .i64 (placesOf ((A.parts.take i).map PartA.p) 4)]=(countsTo A (i+1)).cs:=by unfold countsTo Tally.cs;simp only[placesOf_succ hil,hvg,h5];simp
    rw[hvg]
    refine OK.reg (kc (zm rfl) (kc (zn rfl rfl) (kc (zr fi123_0 rfl) (kc (zr fi68_4 rfl) (kc (S.rload1 ti3 .none rfl (zt rfl) rfl (HeapJ.ld1 (k:=.p i) (HA.atP? hv) rfl (.same _))) (kc (S.bindex (i:=1) Tryz.underlying149 Tryz.sizeOf148 .none rfl (zt rfl) (zt rfl) h5 (by decide)) (kc (zl ti148 rfl rfl rfl rfl) (kc (S.nilCheckB .none rfl (zt rfl)) (kc (zl ti3 rfl rfl rfl rfl) (kc (zp rfl rfl (by omega)) (kc (S.nilCheckB .none rfl (zt rfl)) ?_)))))))))))
    refine kc (zS ti3 rfl rfl rfl rfl rfl rfl) (RK.nil (Ab.D.blk (Ab.D.code (OK.reg ?_))))
    refine kc (zp rfl rfl (by omega)) (kc (zm rfl) (RK.nil (Ab.D.lp ⟨i+1,(by omega),(by omega),rfl,rfl,rfl,(lkBxx hcs),rfl,rfl,rfl,rfl,rfl,rfl,trivial⟩)))
   ·
    have hcs:[X.int .i64 (A.parts.length:Int),.int .i64 (placesOf ((A.parts.take i).map PartA.p) 0),.int .i64 (placesOf ((A.parts.take i).map PartA.p) 1),.int .i64 (placesOf ((A.parts.take i).map PartA.p) 2+1),.int .i64 (placesOf ((A.parts.take i).map PartA.p) 3),.int .i64 (placesOf ((A.parts.take i).map PartA.p) 4)]=(countsTo A (i+1)).cs:=by unfold countsTo Tally.cs;simp only[placesOf_succ hil,hvg,h5];simp
    rw[hvg]
    refine OK.reg (kc (zm rfl) (kc (zn rfl rfl) (kc (zr fi123_0 rfl) (kc (zr fi68_4 rfl) (kc (S.rload1 ti3 .none rfl (zt rfl) rfl (HeapJ.ld1 (k:=.p i) (HA.atP? hv) rfl (.same _))) (kc (S.bindex (i:=2) Tryz.underlying149 Tryz.sizeOf148 .none rfl (zt rfl) (zt rfl) h5 (by decide)) (kc (zl ti148 rfl rfl rfl rfl) (kc (S.nilCheckB .none rfl (zt rfl)) (kc (zl ti3 rfl rfl rfl rfl) (kc (zp rfl rfl (by omega)) (kc (S.nilCheckB .none rfl (zt rfl)) ?_)))))))))))
    refine kc (zS ti3 rfl rfl rfl rfl rfl rfl) (RK.nil (Ab.D.blk (Ab.D.code (OK.reg ?_))))
    refine kc (zp rfl rfl (by omega)) (kc (zm rfl) (RK.nil (Ab.D.lp ⟨i+1,(by omega),(by omega),rfl,rfl,rfl,(lkBxx hcs),rfl,rfl,rfl,rfl,rfl,rfl,trivial⟩)))
   ·
    have hcs:[X.int .i64 (A.parts.length:Int),.int .i64 (placesOf ((A.parts.take i).map PartA.p) 0),.int .i64 (placesOf ((A.parts.take i).map PartA.p) 1),.int .i64 (placesOf ((A.parts.take i).map PartA.p) 2),.int .i64 (placesOf ((A.parts.take i).map PartA.p) 3+1),.int .i64 (placesOf ((A.parts.take i).map PartA.p) 4)]=(countsTo A (i+1)).cs:=by unfold countsTo Tally.cs;simp only[placesOf_succ hil,hvg,h5];simp
    rw[hvg]
    refine OK.reg (kc (zm rfl) (kc (zn rfl rfl) (kc (zr fi123_0 rfl) (kc (zr fi68_4 rfl) (kc (S.rload1 ti3 .none rfl (zt rfl) rfl (HeapJ.ld1 (k:=.p i) (HA.atP? hv) rfl (.same _))) (kc (S.bindex (i:=3) Tryz.underlying149 Tryz.sizeOf148 .none rfl (zt rfl) (zt rfl) h5 (by decide)) (kc (zl ti148 rfl rfl rfl rfl) (kc (S.nilCheckB .none rfl (zt rfl)) (kc (zl ti3 rfl rfl rfl rfl) (kc (zp rfl rfl (by omega)) (kc (S.nilCheckB .none rfl (zt rfl)) ?_)))))))))))
    refine kc (zS ti3 rfl rfl rfl rfl rfl rfl) (RK.nil (Ab.D.blk (Ab.D.code (OK.reg ?_))))
    refine kc (zp rfl rfl (by omega)) (kc (zm rfl) (RK.nil (Ab.D.lp ⟨i+1,(by omega),(by omega),rfl,rfl,rfl,(lkBxx hcs),rfl,rfl,rfl,rfl,rfl,rfl,trivial⟩)))
   ·
    have hcs:[X.int .i64 (A.parts.length:Int),.int .i64 (placesOf ((A.parts.take i).map PartA.p) 0),.int .i64 (placesOf ((A.parts.take i).map PartA.p) 1),.int .i64 (placesOf ((A.parts.take i).map PartA.p) 2),.int .i64 (placesOf ((A.parts.take i).map PartA.p) 3),.int .i64 (placesOf ((A.parts.take i).map PartA.p) 4+1)]=(countsTo A (i+1)).cs:=by unfold countsTo Tally.cs;simp only[placesOf_succ hil,hvg,h5];simp
    rw[hvg]
    refine OK.reg (kc (zm rfl) (kc (zn rfl rfl) (kc (zr fi123_0 rfl) (kc (zr fi68_4 rfl) (kc (S.rload1 ti3 .none rfl (zt rfl) rfl (HeapJ.ld1 (k:=.p i) (HA.atP? hv) rfl (.same _))) (kc (S.bindex (i:=4) Tryz.underlying149 Tryz.sizeOf148 .none rfl (zt rfl) (zt rfl) h5 (by decide)) (kc (zl ti148 rfl rfl rfl rfl) (kc (S.nilCheckB .none rfl (zt rfl)) (kc (zl ti3 rfl rfl rfl rfl) (kc (zp rfl rfl (by omega)) (kc (S.nilCheckB .none rfl (zt rfl)) ?_)))))))))))
    refine kc (zS ti3 rfl rfl rfl rfl rfl rfl) (RK.nil (Ab.D.blk (Ab.D.code (OK.reg ?_))))
    refine kc (zp rfl rfl (by omega)) (kc (zm rfl) (RK.nil (Ab.D.lp ⟨i+1,(by omega),(by omega),rfl,rfl,rfl,(lkBxx hcs),rfl,rfl,rfl,rfl,rfl,rfl,trivial⟩)))
  ·
   refine OK.exit rfl (kp (kc (zL ti98 rfl rfl rfl rfl) (kc (zS ti98 rfl rfl rfl rfl rfl rfl) (kc (zi rfl rfl) (kD (OK.ret (Ret.r2 (.cellN rfl rfl rfl rfl ti98 rfl (.k (.same rfl) (.k (.same rfl) (.k (.same rfl) (.k (.same rfl) (.k (.same rfl) (.k (.same rfl) .z))))))) (zo rfl rfl) ?_)))))))
   unfold countsT
   rw[if_neg c21,show i=A.parts.length by omega,countsTo_all,hpl]
   rfl
set_option maxHeartbeats 1000000 in
theorem rec_HistoryOf{n:Net}{l:List Entry}{num:Int}(hp:n.plan.length≤1000)(hE:EffIn l):CtT Tryz.prog 37 [.agg n.cs,.sl (l.map Entry.cs),.int .i64 num] (.tup [ints (histT n l num).1,.int .i64 (histT n l num).2]):=by
 refine CtT.intro (rs:=[.tmp 6,.tmp 7]) Tryz.func37 rfl Tryz.ntmps37 Tryz.results37 rfl rfl rfl fun w h hT=>?_
 refine kr (RK.c (zB (c:=3) rfl rfl) (kc (S.assign .none rfl .cnil) (kc (zi rfl rfl) (kq (kc (zL ti26 rfl rfl rfl rfl) (kc (zm rfl) (kc (zm rfl) (RK.callXA (((rec_found hp hE).at hT)) (fun _=>JLA.stable _ _ _) (fun _=>JLA.mono) Tryz.call49 rfl (zc rfl (zc rfl (zc rfl .nil))) rfl fun A=>?_))))))))
 refine kc (zm rfl) (kc (zX rfl rfl rfl) (kc (zX rfl rfl rfl) (kc (za rfl) (kc (za rfl) (kD (kO (kr ?_)))))))
 refine kc (zm rfl) (kc (zN rfl rfl) (kD (kB rfl (fun c18=>?_) (fun c18=>?_))))
 ·
  have hf0:foundE n l num≠0:=c18
  have hH:histT n l num=([],foundE n l num):=by unfold histT;rw[if_pos hf0]
  refine kr (kc (zm rfl) (kc (S.assign .none rfl .cnil) (kc (za rfl) (kD (OK.ret (Ret.r2 (zo rfl rfl) (zo rfl rfl) ?_))))))
  rw[hH]
  rfl
 ·
  have hf0:foundE n l num=0:=Decidable.not_not.1 c18
  have he0:(replayT n l).2.2=0:=foundE_0 hf0
  refine OK.resJLA he0 rfl fun hok hpl=>?_
  have hpx:A.plain.pIx num=ix (fun v=>decide (v.p.num=num)) A.parts:=HA.pIx_plain A num
  obtain⟨i,hpi⟩:=foundE_1 hf0
  have hpi2:ix (fun v=>decide (v.p.num=num)) A.parts=some i:=by rw[←hpx,hpl];exact hpi
  obtain⟨v,hv⟩:=at_of_lt (ix_some hpi2).1
  have hfp:foundP n l num A=pV v.b:=by unfold foundP;rw[if_pos he0];exact optP_at hpi2 (HA.pb? hv)
  rw[hfp]
  have hH:histT n l num=(v.es.mergeSort (fun x y=>decide (x≤y)),0):=by unfold histT;rw[if_neg (by rw[hf0];decide),hpi];dsimp only[Option.getD_some];rw[←hpl,HA.plain_part hv];rfl
  have hle:=hok.le v (List.mem_of_getElem? hv)
  have hm0:=hok.m0
  have hme:=HA.mem_e hv
  refine OK.skip (Ab.D.code (kO ?_))
  rcases hq:v.eh with _|q
  ·
   have hes:=hok.eh v (List.mem_of_getElem? hv) hq
   have hvv:v.eh.v v.es.length=.slice none 0 0:=by rw[hq,hes];rfl
   have hso:(v.es.mergeSort fun x y=>decide (x≤y))=[]:=by rw[hes];simp
   have hfz:FzV A.mem (.raw (v.eh.v v.es.length)) (ints (v.es.mergeSort fun x y=>decide (x≤y))):=by rw[hvv,hso];exact Fz.nil
   refine OK.reg (kc (zm rfl) (kc (zn rfl rfl) (kc (zr fi123_1 rfl) (kc (S.rload1 ti47 .none rfl (zt rfl) rfl (HeapJ.ld1 (k:=.p i) (HA.atP? hv) rfl (.same _))) ?_))))
   refine RK.c (S.callJ ((by rw[hvv];exact sortsN sortsI)) (HeapJ.stable _) Tryz.call63 .none rfl (zc rfl .nil) rfl rfl) ?_
   refine kq (kc (zm rfl) (kc (zn rfl rfl) (kc (zr fi123_1 rfl) (kc (S.rload1 ti47 .none rfl (zt rfl) rfl (HeapJ.ld1 (k:=.p i) (HA.atP? hv) rfl (.same _))) (kc (za rfl) (kc (zi rfl rfl) (kD ?_)))))))
   refine OK.hfreeze [(6,ints (v.es.mergeSort fun x y=>decide (x≤y)))] rfl (by intro p hp;simp at hp;subst hp;exact⟨by show(6:Nat)<1000;decide,_,rfl,hfz⟩) ?_
   refine OK.ret (Ret.r2 (zo rfl rfl) (zo rfl rfl) ?_)
   rw[hH]
  ·
   rw[hq]at hme
   have hMe:A.mem (.e i)=some (q.1,.row 1 q.2 (v.es.map fun n=>[X.int .i64 n])):=hme
   have hvv:v.eh.v v.es.length=.slice (some ⟨q.1,0,none⟩) v.es.length q.2:=by rw[hq];rfl
   have hfz:FzV (A.mem.set (.e i) (some (q.1,.row 1 q.2 ((v.es.mergeSort fun x y=>decide (x≤y)).map fun n=>[X.int .i64 n])))) (.raw (v.eh.v v.es.length)) (ints (v.es.mergeSort fun x y=>decide (x≤y))):=by rw[hvv];exact fz_hist (HM.set_same _ _ _) (sort_len _)
   refine OK.reg (kc (zm rfl) (kc (zn rfl rfl) (kc (zr fi123_1 rfl) (kc (S.rload1 ti47 .none rfl (zt rfl) rfl (HeapJ.ld1 (k:=.p i) (HA.atP? hv) rfl (.same _))) ?_))))
   refine RK.c (S.callJ ((by rw[hvv];exact sortsJ sortsI (M:=A.mem) (kb:=.e i) (b:=q.1) (cap:=q.2) hMe rfl (by omega))) (HeapJ.stable _) Tryz.call63 .none rfl (zc rfl .nil) rfl rfl) ?_
   refine kq (kc (zm rfl) (kc (zn rfl rfl) (kc (zr fi123_1 rfl) (kc (S.rload1 ti47 .none rfl (zt rfl) rfl (HeapJ.ld1 (k:=.p i) ((HM.set_other _ _ (fun h=>by cases h)).trans (HA.atP? hv)) rfl (.same _))) ?_))))
   refine kc (za rfl) (kc (zi rfl rfl) (kD ?_))
   refine OK.hfreeze [(6,ints (v.es.mergeSort fun x y=>decide (x≤y)))] rfl (by intro p hp;simp at hp;subst hp;exact⟨by show(6:Nat)<1000;decide,_,rfl,hfz⟩) ?_
   refine OK.ret (Ret.r2 (zo rfl rfl) (zo rfl rfl) ?_)
   rw[hH]
end Go.Proofs.YtpbalelbenmmbaaGreatDoor
