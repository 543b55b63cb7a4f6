import Derived.Test.YtdhdgbnafkeifaaGreatDoorUo
set_option linter.all false
set_option maxHeartbeats 4000000
open List renaming length->R
namespace Go.Proofs.YtdhdgbnafkeifaaGreatDoor
open Go.Ab Tryz
set_option maxRecDepth 9999
def runT_snoc:∀(l:List Entry)(H:ax)(i:Nat)(x:Entry),(runT H i (l++[x])).2.2=0->(runT H i l).2.2=0/\(bX (runT H i l).1 x).2=0/\(runT H i (l++[x])).1=(bX (runT H i l).1 x).1
 |[],H,i,x,h=>by
  rw[bε,runT]at h⊢;by_cases e:(bX H x).2=0
  ·rw[Zm (Zp e)];exact⟨rfl,e,rfl⟩
  rw[Zn e]at h;exact absurd h e
 |y::l,H,i,x,h=>by
  rw[H5,runT]at h⊢;by_cases e:(bX H y).2=0
  ·rw[Zm (Zp e)]at h⊢;rw[runT,Zm (Zp e)];exact runT_snoc l _ _ x h
  rw[Zn e]at h;exact absurd h e
def replay_next{n:Net}{l:List Entry}(h:(bl n l).2.2=0){i:Nat}(hi:i<R l):(bX (bl n (l.take i)).1 l[i]).2=0/\(bl n (l.take (i+1))).1=(bX (bl n (l.take i)).1 l[i]).1:=by
 have a:=Qj h (i+1);obtain⟨_,_,b⟩:=Sv a;obtain⟨_,_,c⟩:=Sv (Qj h i);rw[b]at a⊢;rw[c];rw[mv hi]at a⊢;exact(runT_snoc _ _ _ _ a).2
end Go.Proofs.YtdhdgbnafkeifaaGreatDoor
namespace Go.Proofs.YtdhdgbnafkeifaaGreatDoor
open Go.Ab Tryz
def ax.Un(H:ax):Prop:=(∀i j,i<R H.parts->j<R H.parts->(H.p i).place=0->(H.p j).place=0->i=j)/\∀j,j<R H.parts->0<=(H.p j).num/\(H.p j).num<=1000000
def Mv.un{H H':ax}{s:Bool}(m:Mv H H' s)(h:H.Un):H'.Un:=by
 have key:∀k,k<R H.parts->(H'.p k).place=0->(H.p k).place=0:=fun k g e=>by
  have:=m.old k g;unfold r_ at this;omega
 have f:=m.len;have a:∀k,k<R H'.parts->¬k<R H.parts->s=true/\k=R H.parts:=fun k g q=>by
  cases s with
  |false=>simp at f;omega
  |true=>simp at f;exact⟨rfl,I⟩
 refine⟨fun i j hi d n l=>?_,fun j d=>?_⟩
 ·by_cases c:i<R H.parts<;>by_cases b:j<R H.parts
  ·exact h.1 i j c b (key i c n) (key j b l)
  ·exact absurd (key i c n) ((m.new (a j d b).1).2 i c)
  ·exact absurd (key j b l) ((m.new (a i hi c).1).2 j b)
  rw[(a i hi c).2,(a j d b).2]
 by_cases b:j<R H.parts
 ·rw[m.nm j b];exact h.2 j b
 rw[(a j d b).2];exact(m.new (a j d b).1).1.2
def replay_Un{n:Net}{l:List Entry}(h:(bl n l).2.2=0):(bl n l).1.Un:=To ax.Un (fun _ _ _=>⟨fun i _ hi=>absurd hi (bπ i),fun j b=>absurd b (bπ j)⟩) (fun H x a e=>by
 obtain⟨k,_,m⟩:=Mv.enter e;exact m.un a) h
def st_at(H:ax)(j:Nat)(b:j<R H.st.parts):∃a:j<R H.parts,H.st.parts[j]=H.p j:=by
 have a:j<R H.parts:=by
  have:R H.st.parts=R H.parts:=Zx ..;omega
 refine⟨a,?_⟩;rw[Wf (Zv a)];exact bκ ..
end Go.Proofs.YtdhdgbnafkeifaaGreatDoor
namespace Go.Proofs.YtdhdgbnafkeifaaGreatDoor
open Go.Ab Tryz
structure Nm(H:ax):Prop where
 v:∀q∈H.aU,q.1.name.length<=12
 c:∀q∈H.aC,q.1.name.length<=12
 p:∀q∈H.parts,q.1.oF.length<=12/\q.1.coil.length<=12
section
variable{H H':ax}{i:Nat}
def Nm.eC(h:Nm H){f:Part->Part}(a:∀p,(f p).oF=p.oF/\(f p).coil=p.coil:=by exact fun _=>⟨rfl,rfl⟩):Nm (H.eC i f):=
 ⟨h.v,h.c,UM h.p fun b=>by
  dsimp only;rw[(a _).1,(a _).2];exact h.p _ (Zt b)⟩
def Nm.jO(h:Nm H):Nm (H.jO i):=⟨h.v,h.c,UM h.p fun a=>by have:=h.p _ (Zt a);exact this⟩
def Nm.Ff(h:Nm H):Nm (H.Ff i):=⟨h.v,h.c,fun q b=>by
 obtain⟨r,a,rfl⟩:=rx.1 b;have:=h.p r a;split<;>exact this⟩
def Nm.about(h:Nm H){n:Int}{f:ax->Nat->HE}(a:∀i,Nm (f H i).1):Nm (cK H n f).1:=by
 unfold cK;cases H.vr n with
 |none=>exact h
 |some i=>
  dsimp only;split
  ·exact(a i).jO
  exact a i
def Nm.aC(h:Nm H)(j:Nat)(k:Int->Int):∀q∈H.aC.modify j fun q=>({q.1 with shots:=k q.1.shots},q.2),R q.1.name<=12:=UM h.c fun a=>by have:=h.c _ (Zt a);exact this
def Nm.start(h:Nm H)(n:Int)(r c:ba):Nm (fT H n r c).1:=by
 by_cases e:aF [ae (decide (n<=1000000)) 2,ae (H.vr n).isNone 5,ae ((H.Ec r).isSome&&(H.Bs c).isSome) 6,ae H.xE.isNone 17]=0
 case neg=>rw[xg rfl e];exact h
 obtain⟨_,_,f,_⟩:=Dz e;rw[Zw]at f;obtain⟨k,g⟩:=sk.1 f.1;obtain⟨j,l⟩:=sk.1 f.2;have b:=(j5 g).1;have d:=(eE l).1;rw[DA e g (Zv b) l (Zv d)];split
 ·exact h
 refine⟨h.v,h.aC j (· +1),fun q a=>?_⟩;rcases List.mem_append.1 a with a|a
 ·exact h.p q a
 rw[pi.1 a];exact⟨h.v _ (Zt b),h.c _ (Zt d)⟩
def Nm.IZ(h:Nm H)(k:Nat)(L:vN):Nm (mO k H L).1:=by
 unfold mO;split
 ·exact h
 ·exact h.start ..
 ·unfold frameT;cases H.xE with
  |none=>exact h
  |some i=>
   dsimp only
   repeat' split
   all_goals first|exact h|exact(Nm.eC h).jO|exact h.jO
 ·unfold n8;cases H.xE with
  |none=>exact h
  |some i=>exact(Nm.eC h).jO
 ·refine h.about fun i=>?_
  unfold gj;split<;>dsimp only<;>first|exact h|exact Nm.eC h
 ·refine h.about fun i=>?_
  unfold Ei;split<;>dsimp only<;>first|exact h|exact Nm.eC h
 ·unfold coilT;dsimp only;split
  ·rename_i b;have d:bS L.coil=true:=by
    rw[aF]at b;cases a:bS L.coil with
    |true=>rfl
    |false=>rw[a,Zn C]at b;exact absurd b C
   refine⟨h.v,fun q a=>?_,h.p⟩;rcases List.mem_append.1 a with a|a
   ·exact h.c q a
   rw[pi.1 a];exact rf d
  exact h
 ·unfold tS;repeat' split
  all_goals first|exact h|exact⟨h.v,h.aC _ (fun _=>0),h.p⟩
 ·refine h.about fun i=>?_
  unfold yE;split<;>dsimp only<;>first|exact h|exact Nm.eC h
 ·refine h.about fun i=>?_
  unfold yQ;dsimp only;repeat' split
  all_goals dsimp only
  all_goals first|exact h|exact(Nm.eC h).Ff|exact Nm.eC h
 ·unfold eG;dsimp only;split
  ·exact h
  split
  ·exact h
  rename_i e _;refine⟨fun q a=>?_,h.c,h.p⟩;rcases List.mem_append.1 a with a|a
  ·exact h.v q a
  rw[pi.1 a];exact rf (by simpa using e)
 ·refine h.about fun i=>?_
  unfold fe;dsimp only;split<;>exact⟨h.v,h.c,h.p⟩
 unfold gS;split<;>exact⟨h.v,h.c,h.p⟩
def Nm.enter(h:Nm H){x:Entry}(h0:(bX H x).2=0):Nm (bX H x).1:=by
 unfold bX at h0⊢;split at h0
 ·split<;>first|exact h|contradiction
 rename_i a;rw[Zm a];split
 ·split
  ·exact h
  dsimp only;split
  ·exact h.IZ ..
  have m:=h.IZ (by assumption) (fH x.text).1;exact⟨m.v,m.c,m.p⟩
 exact h
end
def replay_Nm{n:Net}{l:List Entry}(h:(bl n l).2.2=0):Nm (bl n l).1:=To Nm (fun _ _ _=>⟨fun q a=>(by cases a),fun q a=>(by cases a),fun q a=>(by cases a)⟩) (fun H x b e=>b.enter e) h
section
open Go.Ab Tryz
def OK.aggRep{E:Env}{s:St}{Q:bo}{U:bc}{c:Code}{us:bi}{rows:List bi}(t i:Nat)(d:Nat.blt t 1000=true)(f:Ab.look s t=some (.agg us))(hi:us[i]?=some (.sl rows))(h:IsRep (.sl rows)->OK E c Q U s):OK E c Q U s:=by
 intro a w b;refine h ?_ a w b;obtain⟨cx,k,hh⟩:=b;obtain⟨vs,_,g⟩:=(hh _ _ f).slot d;obtain⟨v,j,e⟩:=g.eD hi;exact⟨cx.h,v,show ay cx.h (.sl rows) v from e⟩
end
def part_rep{L:List Part}(h:IsRep (.sl (L.map Part.cs))){i:Nat}(hi:i<R L):IntKind.i64.wrap L[i].iN=L[i].iN/\IntKind.i64.wrap L[i].place=L[i].place/\IntKind.i64.wrap L[i].verdict=L[i].verdict:=by
 have k:∀y∈L[i].cs,IsRep y:=fun y a=>h.mem (List.mem_flatten.2 ⟨L[i].cs,rx.2 ⟨L[i],Zt hi,rfl⟩,a⟩)
 exact⟨(k (bv L[i].iN) (by simp[Part.cs,Part.cells])).int,(k (bv L[i].place) (by simp[Part.cs,Part.cells])).int,(k (bv L[i].verdict) (by simp[Part.cs,Part.cells])).int⟩
def catI(l:bd):ba:=Lib.join (l.map Lib.itoa) [32]
def join_1(n:Int):joinT [n]=Lib.itoa n:=by simp[joinT,Lib.join,List.intercalate,List.intersperse]
def itoa_ne{n:Int}(h:0<=n):Lib.itoa n≠[]:=by rw[uI h];exact dec_pos _
def catI_on(l:bd)(n:Int):catI (l++[n])=(if l=[]then []else catI l++[32])++Lib.itoa n:=by
 unfold catI;rw[ne,dι,join_snoc];by_cases h:l=[]
 ·subst h;rfl
 rw[Zm (fun e=>h (by simpa using e)),Zm h];simp
def catI_nil{l:bd}(h:∀n∈l,0<=n/\n<=1000000):catI l=[]↔l=[]:=by
 constructor
 ·intro e;rcases List.eq_nil_or_concat l with rfl|⟨a,n,rfl⟩
  ·rfl
  rw[List.concat_eq_append,catI_on]at e;exact absurd (List.append_eq_nil_iff.1 e).2 (itoa_ne (h n F).1)
 intro e;subst e;rfl
def catI_len{l:bd}(h:∀n∈l,0<=n/\n<=1000000)(c:R l<=12):R (catI l)<=264:=by
 have a:=od (sep:=[32]) (B:=21) (l:=l.map Lib.itoa) fun w hw=>by
  obtain⟨n,b,rfl⟩:=rx.1 hw;exact qI (mn _ (by have:=h n b;omega))
 rw[Zx]at a;simp only[tt,aυ]at a;have:=m8 22 c;unfold catI;omega
def joinT_cat{l:bd}(h:∀n∈l,0<=n/\n<=1000000):joinT l=if catI l=[]then [45]else catI l:=by
 unfold joinT;by_cases h0:l=[]
 ·subst h0;rfl
 rw[Zm (fun e=>h0 (cι.1 e)),Zm (fun e=>h0 ((catI_nil h).1 e))];rfl
def insTo(l:List Part)(i:Nat):bd:=((l.take i).filter gE).map (·.num)
def ins_T{l:List Part}{i:Nat}(h:i<R l)(a:gE l[i]=true):insTo l (i+1)=insTo l i++[l[i].num]:=by
 unfold insTo;rw[mv h,List.filter_append,ne,List.filter_cons_of_pos a];rfl
def ins_F{l:List Part}{i:Nat}(h:i<R l)(a:gE l[i]=false):insTo l (i+1)=insTo l i:=by
 unfold insTo;rw[mv h,List.filter_append,List.filter_cons_of_neg (by rw[a];decide),List.filter_nil,i8]
def insTo_ok{H:ax}(f:H.Un)(g:R H.parts<=12)(i:Nat):(∀n∈insTo H.st.parts i,0<=n/\n<=1000000)/\R (insTo H.st.parts i)<=12:=by
 have e:R H.st.parts=R H.parts:=Zx ..;refine⟨fun n c=>?_,?_⟩
 ·obtain⟨p,b,rfl⟩:=rx.1 c;obtain⟨j,d,rfl⟩:=dγ.1 (eν (List.mem_filter.1 b).1);obtain⟨a,e⟩:=st_at _ j d;rw[e];exact f.2 j a
 have:=cσ gE (H.st.parts.take i);unfold insTo;rw[Zx];rw[sc]at this;omega
def ins_all(H:ax):insTo H.st.parts (R H.st.parts)=H.numbers gE:=by
 unfold insTo;rw[List.take_length];show((H.parts.map (·.1)).filter gE).map (·.num)=_;rw[pA,x3];rfl
def new_ver{H:ax}(a:TY H.aU)(n:ba):H.ko n=if H.st.iN n=0 then(0,false)else(H.st.iN n,true):=by
 have e:H.st.iN n=(R (H.aU.filter fun r=>decide (r.1.name=n)):Int):=by
  show(R ((H.aU.map (·.1)).filter fun r=>decide (r.name=n)):Int)=_;rw[pA,Zx];rfl
 unfold ax.ko;cases h:H.Ec n with
 |none=>
  have b:=OO a n;rw[h]at b;rw[Zn b.symm];rfl
 |some j=>
  obtain⟨q,c,f,d⟩:=VE a h;have g:q∈H.aU.filter fun r=>decide (r.1.name=n):=List.mem_filter.2 ⟨mr c,Zz f⟩
  have:=List.length_pos_of_mem g;rw[Zm I,bφ,c,e];show(q.1.iN,true)=_;rw[d]
def lk_sT{a b:ba}(h:a=b):some (X.str a)=some (X.str b):=by rw[h]
section
variable{H:ax}{q:ba}
abbrev qW(q:ba):ba:=(aL 32 q).1
abbrev qR(q:ba):ba:=(aL 32 q).2.1
structure Ask(q:ba):Prop where
 c:¬q=[99,111,117,110,116]
 i:¬q=[105,110,115,105,100,101]
def ans_no(a:Ask q)(h:(aL 32 q).2.2=false\/(¬qW q=[112,97,114,116]/\¬qW q=[115,104,111,116,115]/\¬qW q=[118,101,114,115,105,111,110])):answerT H q=([],7):=by
 unfold answerT;rw[Zm a.c,Zm a.i];by_cases b:(aL 32 q).2.2=false
 ·rw[Zn b]
 rcases h with h|⟨f,e,d⟩
 ·exact absurd h b
 rw[Zm b,Zm f,Zm e,Zm d]
def ans_p1(a:Ask q)(d:(aL 32 q).2.2=true)(h:qW q=[112,97,114,116])(b:numOk (qR q) 7=false):answerT H q=([],7):=by
 unfold answerT;rw[Zm a.c,Zm a.i,Zm (by rw[d];decide),Zn h,Zn b]
def ans_p2(a:Ask q)(d:(aL 32 q).2.2=true)(h:qW q=[112,97,114,116])(b:numOk (qR q) 7=true)(e:sU (bp (qR q)) (H.vr (bp (qR q))).isSome≠0):answerT H q=([],sU (bp (qR q)) (H.vr (bp (qR q))).isSome):=by
 unfold answerT;rw[Zm a.c,Zm a.i,Zm (by rw[d];decide),Zn h,Zm (by rw[b];decide),Zn e]
def ans_p3(a:Ask q)(d:(aL 32 q).2.2=true)(h:qW q=[112,97,114,116])(b:numOk (qR q) 7=true)(e:¬sU (bp (qR q)) (H.vr (bp (qR q))).isSome≠0){i:Nat}(hi:H.vr (bp (qR q))=some i):answerT H q=(EH (H.p i),0):=by
 unfold answerT;rw[Zm a.c,Zm a.i,Zm (by rw[d];decide),Zn h,Zm (by rw[b];decide),Zm e,hi];rfl
def ans_s(a:Ask q)(b:(aL 32 q).2.2=true)(h:qW q=[115,104,111,116,115]):answerT H q=kj (qR q) (H.shots (qR q)).1 (H.shots (qR q)).2:=by
 unfold answerT;rw[Zm a.c,Zm a.i,Zm (by rw[b];decide),Zm (by rw[show(aL 32 q).1=_ from h];decide),Zn h]
def ans_v(a:Ask q)(b:(aL 32 q).2.2=true)(h:qW q=[118,101,114,115,105,111,110]):answerT H q=kj (qR q) (H.ko (qR q)).1 (H.ko (qR q)).2:=by
 unfold answerT;rw[Zm a.c,Zm a.i,Zm (by rw[b];decide),Zm (by rw[show(aL 32 q).1=_ from h];decide),Zm (by rw[show(aL 32 q).1=_ from h];decide),Zn h]
end
def named_4{m:ba}{v:Int}{o:Bool}(h:bS m=false):kj m v o=([],4):=by unfold kj qH;rw[h];rfl
def named_6{m:ba}{v:Int}(h:bS m=true):kj m v false=([],6):=by unfold kj qH;rw[h];rfl
def named_0{m:ba}{v:Int}(h:bS m=true):kj m v true=(Lib.itoa v,0):=by unfold kj qH;rw[h,←join_1];rfl
def shots_0{H:ax}{m:ba}(h:H.Bs m=none):H.shots m=(0,false):=by unfold ax.shots;rw[h];rfl
def shots_1{H:ax}{m:ba}{j:Nat}(h:H.Bs m=some j)(b:j<R H.st.aC):H.shots m=(H.st.aC[j].shots,true):=by
 have a:j<R H.aC:=by
  have:R H.st.aC=R H.aC:=Zx ..;omega
 unfold ax.shots;rw[h,bφ,Zv a];have e:H.st.aC[j]=H.aC[j].1:=bκ ..;rw[e]
def part_str(p:Part):EH p=p.oF++[32]++Lib.itoa p.iN++[32]++p.coil++[32]++Lib.itoa p.place++[32]++Lib.itoa p.verdict:=by
 simp[EH,joinT,Lib.join,List.intercalate,List.intersperse]
def ref10_Answer{H:ax}{q:ba}(hH:HS H)(hN:Nm H)(hU:H.Un)(hq:R q<=100000):Ct prog 42 [.agg H.st.cs,bv H.entries,.str q] (.cf [.str (answerT H q).1,bv (answerT H q).2]):=by
 refine cI func42 O (OK.aggRep 0 2 O O O fun hR=>?_);have T:=hH.inv.lp;have hpe:R H.st.parts=R H.parts:=Zx ..;have hcl:=xS (c:=32) (l:=q);have hqr:R (qR q)<=100000:=by show(R (aL 32 q).2.1)<=_;omega
 refine ro 20 O (kB O (fun E=>?_) (fun E=>?_))
 ·have a:answerT H q=(Lib.itoa H.entries,0):=by unfold answerT;rw[Zn E,join_1]
  refine ro 3 O (kc (zK base_Decimal call73 O) (rr 4 O (kS O O O O ?_)));rw[a];try rfl
 refine ro 6 O (kB O (fun M=>?_) (fun M=>?_))
 ·obtain⟨W,hx2⟩:=insTo_ok hU T (R H.st.parts);have a:answerT H q=(if catI (insTo H.st.parts (R H.st.parts))=[]then [45]else catI (insTo H.st.parts (R H.st.parts)),0):=by unfold answerT;rw[Zm E,Zn M,←ins_all,joinT_cat W]
  refine ro 12 O ?_;refine OK.loop (G:=Nat) [3] (fun i=>[(3,.ptr 3 0),(1003,.box H.st.cs),(8,.str (catI (insTo H.st.parts i))),(9,bv i)]) (fun i=>i<=R H.st.parts) (fun i=>R H.st.parts - i) 0 (Zr _) ⟨O,O,O,O,Zo⟩ (fun _=>O) ?_;rintro i hi;refine ro 6 O (kc (zk ZH O) (rr 3 O (kB O (fun c29=>?_) (fun c29=>?_))))
  ·have b:i<R H.st.parts:=by omega
   obtain⟨g,hn2⟩:=insTo_ok hU T i;have hcl2:=catI_len g hn2;obtain⟨z,y⟩:=st_at H i b;have hnb:=hU.2 i z;rw[←y]at hnb;have hil2:=qI (mn H.st.parts[i].num I);refine ro 9 O (kc (zI ZH O I O) (kc (S.fG T7 .none O (zt O) O O) (kc (zK (Xi (p:=H.st.parts[i])) call74 O) (kD (OK.cond O O (fun m=>?_) (fun m=>?_))))))
   ·refine OK.join (G:=ba) [3] (fun o=>[(3,.ptr 3 0),(1003,.box H.st.cs),(8,.str o),(9,bv i)]) (fun o=>o=if insTo H.st.parts i=[]then []else catI (insTo H.st.parts i)++[32]) (fun _=>O) ?_ ?_
    ·refine ro 6 O (kB O (fun k=>?_) (fun k=>?_))
     ·refine OK.bN (jm O ?_);refine kc (S.sadd .none O (zt O) (.bj (l:=[32]) O C) (by simp only[Zs,tt,aυ];omega)) ?_;refine ja O (RK.nil ?_);refine Ab.D.lp ⟨(catI (insTo H.st.parts i)++[32]),(by first|(rw[Zm (fun e=>k ((catI_nil g).2 e))];done)|(have e:=(catI_nil g).1 (Zu.1 k);rw[Zn e,e];rfl)),O,O,O,O,Zo⟩
     refine OK.skip ?_;refine Ab.D.lp ⟨(catI (insTo H.st.parts i)),(by first|(rw[Zm (fun e=>k ((catI_nil g).2 e))];done)|(have e:=(catI_nil g).1 (Zu.1 k);rw[Zn e,e];rfl)),O,O,O,O,Zo⟩
    rintro o Y;have hol:R o<=265:=by rw[Y];by_cases hx:insTo H.st.parts i=[];rw[Zn hx];exact Zr _;rw[Zm hx,Zs,R0];omega
    refine ro 5 O (kc (zI ZH O I O) ?_);refine rr 2 O (kc (zK base_Decimal call73 O) (kc (S.sadd .none O (zt O) (zt O) I) ?_));refine Rr 9 O I ?_;refine Ab.D.lp ⟨i+1,I,I,O,O,(lk_sT (by first|(rw[ins_T b m,catI_on,Y];done)|(rw[ins_F b m]))),O,Zo⟩
   refine Ro 8 O I ?_;refine Ab.D.lp ⟨i+1,I,I,O,O,(lk_sT (by first|(rw[ins_T b m,catI_on,Y];done)|(rw[ins_F b m]))),O,Zo⟩
  obtain rfl:i=R H.st.parts:=by omega
  refine ro 9 O (kB O (fun L=>?_) (fun L=>?_))
  ·rw[Zn L]at a;refine ro 11 O (kS O O O O ?_);rw[a];try rfl
  rw[Zm L]at a;refine ro 9 O (kS O O O O ?_);rw[a];try rfl
 refine ro 4 O ?_;have A:Ask q:=⟨E,M⟩;refine OK.bN (jm O (kc (zK (XW (s:=q) hq) call75 O) (rr 9 O ?_)));refine OK.join (G:=Unit) [3] (fun _=>[(3,.ptr 3 0),(1003,.box H.st.cs),(10,.str (qW q)),(11,.str (qR q))]) (fun _=>(aL 32 q).2.2=true/\(qW q=[112,97,114,116]\/qW q=[115,104,111,116,115]\/qW q=[118,101,114,115,105,111,110])) (fun _=>O) ?_ ?_
 ·refine ro 3 O (kc (S.not .none O (zt O)) (jm O (RK.split (t:=62) O (fun V=>?_) (fun V=>?_))))
  ·have a:answerT H q=([],7):=ans_no A (.inl (by simpa using V));refine rr 20 O (kS O O O O ?_);rw[a];try rfl
  refine rr 3 O (RK.bh (t:=65) O (fun g65=>?_) (fun g65=>?_))
  ·refine rr 4 O (RK.bh (t:=69) O (fun g69=>?_) (fun g69=>?_))
   ·refine rr 6 O (kB O (fun c73=>?_) (fun c73=>?_))
    ·have a:answerT H q=([],7):=ans_no A (by simp_all);refine ro 6 O (kS O O O O ?_);rw[a];try rfl
    refine OK.skip (Ab.D.lp ⟨(),(by simp_all),O,O,O,O,Zo⟩)
   refine rr 8 O ?_;refine Ab.D.lp ⟨(),(by simp_all),O,O,O,O,Zo⟩
  refine rr 12 O ?_;refine Ab.D.lp ⟨(),(by simp_all),O,O,O,O,Zo⟩
 rintro _ ⟨F,hw⟩;refine ro 7 O (kB O (fun h=>?_) (fun h=>?_))
 ·refine ro 3 O (kc (zK (Y6 (s:=qR q) I) call76 O) ?_);refine rr 11 O (kc (S.not .none O (zt O)) (kD (OK.cond O O (fun K=>?_) (fun K=>?_))))
  ·have x:numOk (qR q) 7=false:=by rw[←(pO (qR q)).1];simpa using K
   have a:=ans_p1 (H:=H) A F h x;refine ro 6 O (kS O O O O ?_);rw[a];try rfl
  have d:numOk (qR q) 7=true:=by rw[←(pO (qR q)).1];simpa using K
  rw[(pO (qR q)).2 d];refine ro 7 O (kc (zK (ref10_NumberErr (s:=H.st) (n:=bp (qR q))) call23 O) (rr 4 O ?_));rw[numE_find H (bp (qR q))];refine ro 5 O (kB O (fun B=>?_) (fun B=>?_))
  ·have a:=ans_p2 (H:=H) A F h d B;refine ro 7 O (kS O O O O ?_);rw[a];try rfl
  obtain⟨i,Q⟩:=sk.1 (yX (Zu.1 B));have a:=ans_p3 (H:=H) A F h d B Q;have P:=(RG H (bp (qR q))).trans Q;have hix:=ZC P;obtain⟨b,_⟩:=eE P;obtain⟨z,y⟩:=st_at H i b;obtain⟨w1,w2,w3⟩:=part_rep hR b;have l1:=qI w1;have l2:=qI w2;have l3:=qI w3;have Z:=hN.p _ (Zt z);have X:=Wf (Zv z);rw[←X,←y]at Z;rw[←y,part_str]at a;refine ro 3 O (kV (.c (zf ZZ O) (.c (zl ZA O O O O) (.c (zL Z_ O O O O) (.c (zm O) (.c (zK (Vf (s:=H.st) (n:=bp (qR q))) call24 O) (.c (S.aP (n:=i) ZH .none O (zt O) (zt O) hix b O) (.c (S.fG T7 .none O (zt O) O O) (.c (zA (c:=16) ze41 O) (.c (zS T7 O O O O O O) .nil))))))))) (Ab.D.code (kO ?_)));refine kV (.c (zf Yt O) (.c (zf PR O) (.c (zl Y9 O O O O) (.c (S.sadd .none O (zt O) (.bj (l:=[32]) O C) (by simp only[Zs,tt,aυ];omega)) (.c (zf Yt O) (.c (zf PU O) (.c (zl Z8 O O O O) (.c (zK base_Decimal call73 O) (.c (S.sadd .none O (zt O) (zt O) (by simp only[Zs,tt,aυ];omega)) (.c (S.sadd .none O (zt O) (.bj (l:=[32]) O C) (by simp only[Zs,tt,aυ];omega)) (.c (zf SH O) (.c (zl Y9 O O O O) (.c (S.sadd .none O (zt O) (zt O) (by simp only[Zs,tt,aυ];omega)) (.c (S.sadd .none O (zt O) (.bj (l:=[32]) O C) (by simp only[Zs,tt,aυ];omega)) (.c (zf Zl O) (.c (zl Z8 O O O O) (.c (zK base_Decimal call73 O) (.c (S.sadd .none O (zt O) (zt O) (by simp only[Zs,tt,aυ];omega)) (.c (S.sadd .none O (zt O) (.bj (l:=[32]) O C) (by simp only[Zs,tt,aυ];omega)) (.c (zf PW O) (.c (zl Z8 O O O O) (.c (zK base_Decimal call73 O) (.c (S.sadd .none O (zt O) (zt O) (by simp only[Zs,tt,aυ];omega)) (.c (za O) (.c (zi O O) .nil))))))))))))))))))))))))) ?_;refine Ab.D.code (kS O O O O ?_);rw[a];try rfl
 have N:=hw.resolve_left h;refine ro 6 O (kc (zK oW call77 O) (kc (S.not .none O (zt O)) (kD (OK.cond O O (fun w=>?_) (fun w=>?_)))))
 ·have x:bS (qR q)=false:=by simpa using w
  have a:answerT H q=([],4):=by rcases N with e|e<;>first|(rw[ans_s A F e,named_4 x];done)|(rw[ans_v A F e,named_4 x];done)
  refine ro 6 O (kS O O O O ?_);rw[a];try rfl
 have d:bS (qR q)=true:=by simpa using w
 refine ro 9 O (kB O (fun v=>?_) (fun v=>?_))
 ·have f:=ans_s (H:=H) A F v;refine ro 4 O (kc (zK (Xu (s:=H.st) (n:=qR q)) call78 O) (rr 10 O (kB O (fun u=>?_) (fun u=>?_))))
  ·have a:answerT H q=([],6):=by rw[f,shots_0 ((RF H _).symm.trans (X1 u)),named_6 d]
   refine ro 6 O (kS O O O O ?_);rw[a];try rfl
  obtain⟨j,J⟩:=X2 u;have hjx:=ZC J;obtain⟨U,_⟩:=eE J;have a:answerT H q=(Lib.itoa H.st.aC[j].shots,0):=by rw[f,shots_1 ((RF H _).symm.trans J) U,named_0 d]
  refine ro 7 O (kc (S.aP (n:=j) Wn .none O (zt O) (zt O) hjx U O) ?_);refine rr 2 O (kc (zK base_Decimal call73 O) (rr 4 O (kS O O O O ?_)));rw[a];try rfl
 have f:=ans_v (H:=H) A F (N.resolve_left v);rw[new_ver hH.inv.iN]at f;refine ro 7 O (kc (zK (XF (s:=H.st) (n:=qR q)) call79 O) (rr 3 O (kB O (fun r=>?_) (fun r=>?_))))
 ·have a:answerT H q=([],6):=by rw[f,Zn (show H.st.iN (qR q)=0 from r),named_6 d]
  refine ro 6 O (kS O O O O ?_);rw[a];try rfl
 have a:answerT H q=(Lib.itoa (H.st.iN (qR q)),0):=by rw[f,Zm (show¬H.st.iN (qR q)=0 from r),named_0 d]
 refine ro 6 O (kc (zK (XF (s:=H.st) (n:=qR q)) call79 O) (kc (zK base_Decimal call73 O) (rr 4 O (kS O O O O ?_))));rw[a];try rfl
end Go.Proofs.YtdhdgbnafkeifaaGreatDoor
namespace Go.Proofs.YtdhdgbnafkeifaaGreatDoor
open Go.Ab Tryz
def dskC(n:Net)(l:List Entry):bi:=n.cs++[.sl (l.map Entry.cs)]
def dskM(b:Nat)(cs:bi):HM Unit:=fun _=>some (b,.box cs)
def dskM_new(b:Nat)(cs:bi):HM.set (K:=Unit) (fun _=>none) () (some (b,.box cs))=dskM b cs:=funext fun _=>Zn rfl
def dskM_set(b:Nat)(cs a:bi):(dskM b cs).set () (some (b,.box a))=dskM b a:=funext fun _=>Zn rfl
def entT(n:Net)(l:List Entry)(x:Entry):List Entry:=if appE n l x=0 then l++[x]else l
def clone_Person{l:List bf}(f:R l<=100000):Ct prog 81 [.sl (l.map bf.cs)] (.sl (l.map bf.cs)):=by
 refine cI func81 O (kr (kc (S.assign .none O .fW) (rr 6 O (RK.EA (t:=3) O O fun e a=>?_))));refine kc (S.F8 underlying22 .none O (zt O)) (kD (OK.cond O O (fun b=>?_) (fun b=>?_)))
 ·refine kr (kc (S.assign .none O .fW) (kD (kR O O ?_)));rw[bα.1 (a b)];rfl
 refine ro 4 O (RK.c (zM [] Jv O O O O) (jm O ?_));refine RK.c (S.mQ Jv .none O (zt O) O N (zt O) (by intro q d;obtain⟨x,_,rfl⟩:=rx.1 d;rfl) (Zx ..) I (by simp only[maxLen];omega)) ?_;refine rr 3 O ?_;refine OK.ret (aA.r1 (.tmp O O (.c (.own O O N) O) O) ?_);rfl
def rec_New{n:Net}(e:R n.aS<=1000)(d:R n.av<=1000)(f:(iG n).2=0):vS prog 43 [.agg n.cs] (fun b:Nat=>.cf [.raw (pV b),bv 0]) (fun b:Nat=>aa (dskM b (dskC n []))):=by
 refine vS.intro (rs:=[.tmp 2,.tmp 3]) func43 rfl ntmps43 results43 rfl rfl rfl fun w h g=>?_
 refine OK.ug Unit (ro 3 O (kc (S.assign .none O .lq) (rr 7 O (kc (S.dB (rec_CheckNet (n:=n) e) g call80 .none O (zc O .nil) O) (rr 13 O (kB O (fun a=>?_) (fun a=>?_)))))))
 ·exact absurd f a
 refine ro 6 O (kc (zK (clone_Person (l:=n.av) I) call81 O) ?_);refine rr 7 O (kc (zU bu167 O O) (RK.c (S.Ex (k:=20) O .none O (zt O) O) (rr 4 O (OK.Hs 2 () (cells':=dskC n []) O O O ⟨.inl ⟨O,O⟩,.inl ⟨O,O⟩,.inl ⟨O,O⟩,.inl ⟨O,O⟩,.inl ⟨O,O⟩,.inr ⟨O,O⟩,Zo⟩ O fun b=>?_))));rw[dskM_new];refine OK.ret ⟨b,aA.r2 (zo O O) (zo O O) ?_,O⟩;rfl
def rec_Enter{b:Nat}{n:Net}{l:List Entry}{x:Entry}(f:R n.aS<=1000)(hlen:R l<=1000)(g:∀x∈l,R x.text<=100000)(e:R x.text<=100000):dU prog 44 [] [.raw (pV b),bv x.at_,.str x.vq,.str x.text] [(3000,.res (aa (dskM b (dskC n l))))] [(3000,.res (aa (dskM b (dskC n (entT n l x)))))] (bv (appE n l x)):=by
 refine cH func44 O fun h=>?_
 refine ro 9 O (kc (S.uA underlying103 .none O (zt O)) (rr 6 O ?_));refine kV (.c (zm O) (.c (zn O O) (.c (zr fi167_0 O) (.c (zJ (us:=n.cs) XB O (aa.Ej (k:=()) (xs:=dskC n l) O ⟨.same _,.same _,.same _,.same _,.same _,Zo⟩ O)) (.c (zm O) (.c (zn O O) (.c (zr fi167_1 O) (.c (zH (u:=.sl (l.map Entry.cs)) ti27 O (aa.dQ (k:=()) (xs:=dskC n l) O O (.same _))) (.c (zm O) (.c (zm O) (.c (zm O) (.c (zU UU O O) (.c (S.dB (rec_Appended (n:=n) (l:=l) (x:=x) f hlen g e) h call82 .none O (zc O (zc O (zc O .nil))) O) (.c (zm O) (.c (zX O O O) (.c (zX O O O) (.c (za O) (.c (za O) .nil)))))))))))))))))) ?_;refine rd 8 O (kB O (fun a=>?_) (fun a=>?_))
 ·have j:=appT_2 (x:=x) a;have d:entT n l x=l++[x]:=Zn a;rw[j];refine ro 5 O (kc (S.dc (xs':=(dskC n (l++[x]))) (()) ti27 .none (zt O) (zt O) O O O O O O O) (rr 3 O ?_));rw[dskM_set];refine ro 5 O ?_;rw[d];refine OK.ret ⟨aA.r1 (zo O O) ?_,O,Zo⟩;rfl
 have d:entT n l x=l:=Zm a;refine ro 8 O ?_;rw[d];refine OK.ret ⟨aA.r1 (zo O O) ?_,O,Zo⟩;rfl
def rec_DAnswer{b:Nat}{n:Net}{l:List Entry}{q:ba}(d:R n.aS<=1000)(f:sS l)(a:R q<=100000):dU prog 45 [] [.raw (pV b),.str q] [(3000,.res (aa (dskM b (dskC n l))))] [(3000,.res (aa (dskM b (dskC n l))))] (.cf [.str (Cw n l q).1,bv (Cw n l q).2]):=by
 refine cH func45 O fun e=>?_
 refine ro 10 O (kc (S.uA underlying103 .none O (zt O)) (rr 6 O ?_));refine kV (.c (zm O) (.c (zn O O) (.c (zr fi167_0 O) (.c (zJ (us:=n.cs) XB O (aa.Ej (k:=()) (xs:=dskC n l) O ⟨.same _,.same _,.same _,.same _,.same _,Zo⟩ O)) (.c (zm O) (.c (zn O O) (.c (zr fi167_1 O) (.c (zH (u:=.sl (l.map Entry.cs)) ti27 O (aa.dQ (k:=()) (xs:=dskC n l) O O (.same _))) (.c (zm O) (.c (S.dB (xU (n:=n) (l:=l) (q:=q) d f a) e call30 .none O (zc O (zc O (zc O .nil))) O) (.c (zX O O O) (.c (zX O O O) (.c (za O) (.c (za O) .nil)))))))))))))) (Ab.D.code (OK.ret ⟨aA.r2 (zo O O) (zo O O) ?_,O,Zo⟩));rfl
end Go.Proofs.YtdhdgbnafkeifaaGreatDoor
namespace Go.Proofs.YtdhdgbnafkeifaaGreatDoor
open Go.Ab Tryz
def sh_str{x:X}(h:Shape .str [x]):∃l:ba,x=.str l:=by
 obtain⟨l,h⟩:=h;cases h;exact⟨l,rfl⟩
def ans_1{n:Net}{l:List Entry}{q:ba}(h:(bl n l).2.2≠0):Cw n l q=([],(bl n l).2.2):=Zn h
def ans_0{n:Net}{l:List Entry}{q:ba}(h:¬(bl n l).2.2≠0):Cw n l q=answerT (bl n l).1 q:=Zm h
def replay_ent{n:Net}{l:List Entry}(h:(bl n l).2.2=0):(bl n l).1.entries=(R l:Int):=by
 obtain⟨_,_,e⟩:=Sv h;rw[e]at h⊢;rw[runT_ent _ _ _ h];show 0+(R l:Int)=_;omega
def ent_on{n:Net}{l:List Entry}(h:(bl n l).2.2=0){i:Nat}(hi:i<R l):appE n (l.take i) l[i]=0/\entT n (l.take i) l[i]=l.take (i+1):=by
 have e:appE n (l.take i) l[i]=0:=(appE_2 (Qj h i)).trans (replay_next h hi).1;refine⟨e,?_⟩;unfold entT;rw[Zn e,mv hi]
def law_RecordQuestions{n:Net}{l:List Entry}{q:ba}:gz prog 7 [.agg n.cs,.sl (l.map Entry.cs),.str q] (.bool true):=by
 refine cT func7 O fun j=>?_
 refine ro 9 O (kc (S.dB (wR) j call9 .none O .nil O) (kc (S.not .none O (zt O)) (rr 9 O (kc (zK (AX (n:=n)) call10 O) (kc (S.not .none O (zt O)) (jm O (RK.split (t:=22) O (fun r=>?_) (fun r=>?_))))))))
 ·refine rr 17 O (kR O O ?_)
  first|rfl|simp
 refine kc (S.move (zg O O) O (zt O)) (kc (S.call (Wc (l:=l)) call11 (zg O O) O (zc O .nil) O) (kc (S.not (zg O O) O (zt O)) (rr 2 O (RK.split (t:=27) O (fun p=>?_) (fun p=>?_)))))
 ·refine rr 12 O (kR O O ?_)
  first|rfl|simp
 refine rr 6 O (kB O (fun C=>?_) (fun C=>?_))
 ·refine ro 5 O (kR O O ?_)
  first|rfl|simp
 have w:mo n=true:=by simpa using r
 have u:Z1 l=true:=by simpa using p
 obtain⟨K,J⟩:=C9 w;obtain⟨F,v⟩:=OL u;have a:∀y∈l,R y.text<=100000:=fun y g=>by have:=v y g;omega
 have N:R q<=40:=by omega
 refine ro 5 O (kc (zK (se (n:=n) I) call13 O) (jm O (kc (zK (XE (l:=l) I) call14 O) (jm O (kc (S.dB (xU (n:=n) (l:=l) (q:=q) I (Ni a) I) j call30 .none O (zc O (zc O (zc O .nil))) O) ?_)))));refine rr 12 O (kc (zK (TG (n:=n) (l:=l) I a) call17 O) ?_);refine rr 9 O (kB O (fun d=>?_) (fun d=>?_))
 ·rw[ans_1 d];refine ro 6 O (RK.bh (t:=49) O (fun o=>?_) (fun o=>?_))
  ·refine rr 6 O (kR O O ?_)
   first|rfl|simp
  exact absurd rfl o
 have h0:(bl n l).2.2=0:=Zu.1 d;have M:RJ n l=(bl n l).1.st:=Q2 d;have E:=ref10_Answer (H:=(bl n l).1) (q:=q) (LZ h0) (replay_Nm h0) (replay_Un h0) I;rw[replay_ent h0,←M,←ans_0 d]at E;refine ro 6 O (kc (zK (Xj (n:=n) (l:=l) I (Sv h0).1 a) call19 O) (jm O (kc (zk YI O) (jm O (kc (zK E call42 O) ?_)))));refine rr 14 O (RK.bh (t:=66) O (fun m=>?_) (fun m=>?_))
 ·exact absurd rfl m
 refine rr 6 O (kB O (fun s=>?_) (fun s=>?_))
 ·exact absurd rfl s
 refine ro 5 O (kc (zK (se (n:=n) I) call13 O) ?_);refine RK.qz (((rec_New (n:=n) I I (Sv h0).1).at j)) (fun _=>aa.az _) (fun _ _ _ _ _ L g=>aa.mono L g) call43 O (zc O .nil) O fun b=>?_
 refine rr 13 O (RK.bh (t:=79) O (fun k=>?_) (fun k=>?_))
 ·exact absurd rfl k
 refine kc (S.move (zg O O) O (zt O)) (kc (S.uA underlying103 (zg O O) O (zt O)) (rr 13 O ?_));refine OK.loop (G:=Nat) [] (fun i=>[(1,.sl (l.map Entry.cs)),(2,.str q),(7,.str (Cw n l q).1),(8,bv (Cw n l q).2),(12,.raw (pV b)),(14,bv i),(3000,.res (aa (dskM b (dskC n (l.take i)))))]) (fun i=>i<=R l) (fun i=>R l - i) 0 (Zr _) ⟨O,O,O,O,O,O,O,Zo⟩ (fun _=>O) ?_;rintro i hi;refine ro 5 O (kc (zk YI O) (rr 3 O (kB O (fun B=>?_) (fun B=>?_))))
 ·have h:i<R l:=by omega
  obtain⟨A,z⟩:=ent_on h0 h;refine ro 5 O ?_;refine kV (.c (zm O) (.c (zm O) (.c (zm O) (.c (zI YI O I O) (.c (S.field U5 .none O (zt O) O) (.c (zV Z8 O O) (.c (zm O) (.c (zm O) (.c (zI YI O I O) (.c (S.field AN .none O (zt O) O) (.c (zV Y9 O O) (.c (zm O) (.c (zm O) (.c (zI YI O I O) (.c (S.field Tl .none O (zt O) O) (.c (zV Y9 O O) (.c (S.ik (((rec_Enter (b:=b) (n:=n) (l:=l.take i) (x:=l[i]) I (by rw[sc];omega) (fun y g=>a y (eν g)) (a _ (Zt h))).jR j (aa.az _))) (aa.az _) call44 .none O (zc O (zc O (zc O (zc O .nil)))) O O) (.c (zN O O) .nil)))))))))))))))))) ?_;refine Ab.D.code (kB O (fun f=>?_) (fun f=>?_))
  ·exact absurd A f
  refine Ro 8 O I ?_;refine Ab.D.lp ⟨i+1,I,I,O,O,O,O,O,O,(Gt (by rw[z])),Zo⟩
 obtain rfl:i=R l:=by omega
 rw[List.take_length];refine ro 6 O ?_;refine RK.c (S.ik (((rec_DAnswer (b:=b) (n:=n) (l:=l) (q:=q) I (Ni a) I).jR j (aa.az _))) (aa.az _) call45 .none O (zc O (zc O .nil)) O O) ?_;refine rr 13 O (RK.bh (t:=116) O (fun e=>?_) (fun e=>?_))
 ·refine rr 7 O (kR O O ?_)
  first|rfl|simp
 exact absurd rfl e
