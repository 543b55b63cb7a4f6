import Derived.Test.YtdhdgbnafkeifaaGreatDoorUj
set_option linter.all false
set_option maxHeartbeats 4000000
namespace Go.Proofs.YtdhdgbnafkeifaaGreatDoor
open Go.Ab Tryz
set_option maxRecDepth 9999
def jrnS(x:Entry):ba:=Lib.itoa x.at_++([32]++(x.vq++([32]++x.text)))
def jlnT(f:Int)(x:Entry)(a:Int):ba:=if f=2 then jrnS x++([32]++Lib.itoa (rY (jrnS x) a))else jrnS x
def linesT(f:Int):List Entry->Int->List ba
 |[],_=>[]
 |x::l,a=>jlnT f x a::linesT f l (rY (jrnS x) a)
def aftT:List Entry->Int->Int
 |[],a=>a
 |x::l,a=>aftT l (rY (jrnS x) a)
def catT(l:List ba):ba:=l.flatMap fun s=>s++[10]
def journalT(l:List Entry)(f:Int):ba:=catT (Lib.itoa f::linesT f l 0)
def fmtE(f:Int):Int:=if f=1\/f=2 then 0 else 15
def jrnE(n:Net)(l:List Entry)(f:Int):Int:=aF [(bl n l).2.2,fmtE f]
def jrnT(n:Net)(l:List Entry)(f:Int):ba×Int:=if jrnE n l f≠0 then([],jrnE n l f)else(journalT l f,0)
def JOk(l:List Entry):Prop:=∀x∈l,IntKind.i64.wrap x.at_=x.at_/\x.vq.length<=1000/\x.text.length<=1000
def sumT_rng:∀(l:ba)(a:Int),0<=a/\a<=999960->0<=rY l a/\rY l a<=999960
 |[],_,h=>h
 |b::l,a,h=>sumT_rng l _ I
def sumT_app:∀(l m:ba)(a:Int),rY (l++m) a=rY m (rY l a)
 |[],_,_=>rfl
 |b::l,m,a=>sumT_app l m _
def aftT_rng:∀(l:List Entry)(a:Int),0<=a/\a<=999960->0<=aftT l a/\aftT l a<=999960
 |[],_,h=>h
 |_::l,_,h=>aftT_rng l _ (sumT_rng _ _ h)
def aftT_snoc:∀(l:List Entry)(x:Entry)(a:Int),aftT (l++[x]) a=rY (jrnS x) (aftT l a)
 |[],_,_=>rfl
 |_::l,x,_=>aftT_snoc l x _
def linesT_snoc(f:Int):∀(l:List Entry)(x:Entry)(a:Int),linesT f (l++[x]) a=linesT f l a++[jlnT f x (aftT l a)]
 |[],_,_=>rfl
 |y::l,x,_=>by rw[md,linesT,linesT_snoc f l];rfl
def linesT_len(f:Int):∀(l:List Entry)(a:Int),(linesT f l a).length=l.length
 |[],_=>rfl
 |_::l,_=>by rw[linesT,ge,linesT_len f l];rfl
def wrap_rng{n:Int}(h:0<=n/\n<=999960):IntKind.i64.wrap n=n:=ca _ I
def jS_len{x:Entry}(h:IntKind.i64.wrap x.at_=x.at_/\x.vq.length<=1000/\x.text.length<=1000):(jrnS x).length<=2030:=by
 have:=qI h.1;simp only[jrnS,Zs,ge,BE];omega
def jlnT_len{x:Entry}{f a:Int}(h:IntKind.i64.wrap x.at_=x.at_/\x.vq.length<=1000/\x.text.length<=1000)(b:0<=a/\a<=999960):(jlnT f x a).length<=2060:=by
 have d:=jS_len h;have c:=qI (wrap_rng (sumT_rng (jrnS x) a b));unfold jlnT;split
 ·simp only[Zs,ge,BE];omega
 omega
def linesT_le(f:Int):∀(l:List Entry)(a:Int),JOk l->(0<=a/\a<=999960)->∀s∈linesT f l a,s.length<=2060
 |[],_,_,_,s,b=>by cases b
 |x::l,a,h,ha,s,b=>by
  rcases ed.1 b with rfl|b
  ·exact jlnT_len (h x dp) ha
  exact linesT_le f l _ (fun y c=>h y (dg _ c)) (sumT_rng _ _ ha) s b
def catT_snoc(l:List ba)(s:ba):catT (l++[s])=catT l++(s++[10]):=by simp[catT]
def catT_len{B:Nat}:∀(l:List ba),(∀s∈l,s.length<=B)->(catT l).length<=l.length * (B+1)
 |[],_=>by simp[catT]
 |s::l,h=>by
  have b:=catT_len l fun x a=>h x (dg _ a)
  have c:=h s dp;simp only[catT,PP,Zs,ge,BE]at b⊢;rw[Fr];omega
def join3(a b c:ba):Lib.join [a,b,c] [32]=a++([32]++(b++([32]++c))):=by simp[Lib.join,List.intercalate,List.intersperse]
def runT_at:∀(l:List Entry)(H:ax)(i:Nat),(runT H i l).2.2=0->∀x∈l,0<=x.at_/\x.at_<=1000000000000
 |[],_,_,_,x,a=>by cases a
 |y::l,H,i,h,x,a=>by
  rw[runT]at h;by_cases e:(bX H y).2=0
  ·rw[Zm (Zp e)]at h;rcases ed.1 a with rfl|a
   ·have b:H.head x=0:=by
     unfold bX at e;by_cases b:H.head x=0
     ·exact b
     rw[Zn b]at e;exact e
    exact(GZ b).2.2.1
   exact runT_at l _ _ h x a
  rw[Zn e]at h;exact absurd h e
def replay_at{n:Net}{l:List Entry}(h:(bl n l).2.2=0):∀x∈l,0<=x.at_/\x.at_<=1000000000000:=by
 unfold bl at h;by_cases e:ua n l=0
 ·rw[Zm (Zp e)]at h;exact runT_at l _ _ h
 rw[Zn e]at h;exact absurd h e
def JOk_of{n:Net}{l:List Entry}(h:(bl n l).2.2=0)(b:∀x∈l,x.vq.length<=1000/\x.text.length<=1000):JOk l:=fun x a=>⟨ca _ (by have:=replay_at h x a;omega),b x a⟩
def JOk.take{l:List Entry}(h:JOk l)(i:Nat):JOk (l.take i):=fun x a=>h x (LP a)
def jrnE_0{n:Net}{l:List Entry}{f:Int}(h:jrnE n l f=0):(bl n l).2.2=0/\fmtE f=0:=by
 unfold jrnE at h;rw[aF]at h;by_cases a:(bl n l).2.2=0
 ·rw[Zm (Zp a),aF]at h;by_cases b:fmtE f=0
  ·exact⟨a,b⟩
  rw[Zn b]at h;exact absurd h b
 rw[Zn a]at h;exact absurd h a
def catT_snoc2(a:ba)(l:List ba)(s:ba):catT (a::l)++(s++[10])=catT (a::(l++[s])):=(catT_snoc (a::l) s).symm
def lk_str{a b:ba}(h:a=b):some (X.str a)=some (X.str b):=by rw[h]
def lk_int{a b:Int}(h:a=b):some (X.int .i64 a)=some (X.int .i64 b):=by rw[h]
def jrnE_v{n:Net}{l:List Entry}{f:Int}(h:(bl n l).2.2=0):jrnE n l f=fmtE f:=by
 unfold jrnE;rw[aF,Zm (Zp h),aF];split
 ·rfl
 rename_i a;rw[Zu.1 a];rfl
def jrnE_e{n:Net}{l:List Entry}{f:Int}(h:¬(bl n l).2.2=0):jrnE n l f=(bl n l).2.2:=by unfold jrnE;rw[aF,Zn h]
def jrnT_j(n:Net)(l:List Entry)(f:Int):(jrnT n l f).2=jrnE n l f/\(jrnT n l f).1=if jrnE n l f=0 then journalT l f else []:=by
 unfold jrnT;split<;>simp_all
def sh_by{l:List Entry}(h:Z1 l=true):∀x∈l,x.vq.length<=20:=by
 intro x c;unfold Z1 at h;rw[Zw]at h;have b:=dj.1 h.2 x c;rcases mx 20 x.vq.length with a|a
 ·rw[X6 (.inr (.inr a))]at b;cases b
 exact a
def base_Mod9{n:Int}(h:0<=n/\n<=1000000000000):Ct prog 70 [bv n,bv 999961] (bv (n % 999961)):=by
 refine cI func70 O (ro 9 O ?_);refine kc (S.rem (q:=(n % 999961)) .none O (zt O) (zt O) C (PH I) (ca _ I)) ?_;refine rr 10 O (kB O (fun a=>?_) (fun a=>?_))
 ·exfalso;omega
 refine ro 8 O (kR O O ?_);rfl
def ref10_Sum{l:ba}{b:Int}(g:0<=b/\b<=999960):Ct prog 36 [.str l,bv b] (bv (rY l b)):=by
 refine cI func36 O (OK.ux (t:=0) (z:=l) O O fun hlen=>?_);unfold maxLen at hlen;refine ro 12 O ?_;refine OK.mP [] (fun(i:Nat)(a:Int)=>[(0,.str l),(1,bv a),(5,bv i)]) (fun i a=>i<=l.length/\(0<=a/\a<=999960)/\rY l b=rY (l.drop i) a) (fun i a=>l.length - i) (0) (b) ⟨Zr _,g,O⟩ ⟨O,O,O,Zo⟩ (fun _ _=>O) ?_;rintro i a ⟨hi,f,d⟩;refine ro 9 O (kB O (fun h=>?_) (fun h=>?_))
 ·have c:i<l.length:=by omega
  have e:=MI l[i];refine ro 6 O ?_;refine kc (S.mul .none O (zt O) (.af O) (ca _ I) (ca _ I)) (jm O (jm O (kc (S.fJ (n:=i) fR .none O (zt O) (zt O) O I) (kc (S.conv .none O (zt O) underlying5 underlying3 (ca _ I) (ca _ I)) ?_))));refine Rr 2 O I (kc (zK (base_Mod9 I) call70 O) ?_);refine Rr 9 O I (Ab.D.lp ⟨i+1,((a * 229+(l[i].toNat:Int)+1) % 999961),⟨by omega,by omega,by rw[d,Av c]⟩,I,O,O,O,Zo⟩)
 refine ro 8 O (kR O O ?_);refine cy ?_;rw[d,show i=l.length by omega,co,rY]
def rec_isFormat{f:Int}:Ct prog 67 [bv f] (.bool (decide (f=1\/f=2))):=by
 refine cI func67 O (ro 10 O (RK.bh (t:=5) O (fun a=>?_) (fun a=>?_)))
 ·refine rr 6 O (kR O O ?_);simp[*]
 refine rr 6 O (kR O O ?_);simp[*]
def ref10_FormatErr{f:Int}:Ct prog 34 [bv f] (bv (fmtE f)):=by
 refine cI func34 O (ro 11 O (RK.bh (t:=5) O (fun a=>?_) (fun a=>?_)))
 ·refine rr 5 O (kB O (fun b=>?_) (fun b=>?_))
  ·refine ro 5 O (kR O O ?_);unfold fmtE;simp_all
  refine ro 7 O (kR O O ?_);unfold fmtE;simp_all
 refine rr 13 O (kR O O ?_);unfold fmtE;simp_all
def rec_head{f:Int}:gz prog 100 [bv f] (.str (Lib.itoa f++[10])):=by
 refine cT func100 O fun c=>?_
 refine OK.IV (t:=0) O O fun a=>?_
 have b:=qI a;refine ro 8 O (kc (S.dB (pS a) c call124 .none O (zc O .nil) O) ?_);refine kc (S.sadd .none O (zt O) (.bj (l:=[10]) O C) (by simp only[Zs,ge,BE];omega)) ?_;refine rr 3 O (kR O O ?_);rfl
def rec_line{x:Entry}{f a:Int}(q:x.vq.length<=1000/\x.text.length<=1000)(j:0<=a/\a<=999960):gz prog 101 [.agg x.cs,bv f,bv a] (.cf [.str (jlnT f x a++[10]),bv (rY (jrnS x) a)]):=by
 refine cT func101 O fun k=>?_
 refine OK.aggInt 0 0 O O O fun m=>?_
 have d:=ca _ m;have o:=qI d;have n:=jS_len ⟨d,q⟩;have g:=sumT_rng (jrnS x) a j;have b:=wrap_rng g;have i:=qI b;have e:Lib.join [Lib.itoa x.at_,x.vq,x.text] [32]=jrnS x:=join3 _ _ _;refine ro 8 O ?_;refine kV (.c (zf fi78_0 O) (.c (zl Z8 O O O O) (.c (S.dB (pS d) k call124 .none O (zc O .nil) O) (.c (zf fi78_1 O) (.c (zl Y9 O O O O) (.c (zf fi78_2 O) (.c (zl Y9 O O O O) (.c (zM [[_],[_],[_]] ai83 O O O O) (.c (S.callL (FD.ct (l:=[Lib.itoa x.at_,x.vq,x.text]) (sep:=[32]) F (by rw[e];omega)) call94 .none O (zc O (.cons (.bj (l:=[32]) O C) .nil)) (.cons (.p (.own O O) O) (.cons (.same O) .nil)) O) (.c (za O) .nil)))))))))) ?_;refine Ab.D.code (kO ?_);rw[e];refine ro 3 O (kc (zK (EJ (l:=jrnS x) j) call63 O) (rr 10 O (kB O (fun h=>?_) (fun h=>?_))))
 ·refine ro 3 O (kc (S.dB (pS b) k call124 .none O (zc O .nil) O) ?_);refine kc (S.sadd .none O (.bj (l:=[32]) O C) (zt O) (by simp only[Zs,ge,BE];omega)) ?_;refine kc (S.sadd .none O (zt O) (zt O) (by simp only[Zs,ge,BE];omega)) ?_;refine rr 6 O ?_;refine kc (S.sadd .none O (zt O) (.bj (l:=[10]) O C) (by simp only[Zs,ge,BE];omega)) ?_;refine rr 5 O (kS O O O O ?_);unfold jlnT;simp_all
 refine ro 5 O ?_;refine kc (S.sadd .none O (zt O) (.bj (l:=[10]) O C) (by simp only[Zs,ge,BE];omega)) ?_;refine rr 5 O (kS O O O O ?_);unfold jlnT;simp_all
def rec_journal{l:List Entry}{f:Int}(p:l.length<=1000)(k:JOk l):gz prog 68 [.sl (l.map Entry.cs),bv f] (.str (journalT l f)):=by
 refine cT func68 O fun n=>?_
 refine OK.IV (t:=1) O O fun g=>?_
 have m:=qI g;refine ro 8 O (kc (S.dB (rec_head) n call100 .none O (zc O .nil) O) (rr 12 O (kc (zk si27 O) (rr 4 O ?_))));refine OK.loop (G:=Nat) [] (fun i=>[(0,.sl (l.map Entry.cs)),(1,bv f),(5,.str (catT (Lib.itoa f::linesT f (l.take i) 0))),(6,bv (aftT (l.take i) 0)),(13,.sl (l.map Entry.cs)),(14,bv l.length),(15,bv i)]) (fun i=>i<=l.length) (fun i=>l.length - i) 0 (Zr _) ⟨O,O,(lk_str (by simp[catT,linesT])),O,O,O,O,Zo⟩ (fun _=>O) ?_;rintro i hi;refine ro 6 O (kB O (fun j=>?_) (fun j=>?_))
 ·have c:i<l.length:=by omega
  have a:=dT c;have b:=k l[i] (Zt c);have d:=aftT_rng (l.take i) 0 I;have h:=catT_len (B:=2060) (Lib.itoa f::linesT f (l.take i) 0) (fun s e=>by
   rcases ed.1 e with rfl|e
   ·omega
   exact linesT_le f _ _ (k.take i) I s e)
  rw[ge,linesT_len,gn]at h;have o:=jlnT_len (f:=f) b d;refine ro 6 O (kc (zI si27 O I O) ?_);refine rr 10 O (kc (S.dB (rec_line (x:=l[i]) (f:=f) b.2 d) n call101 .none O (zc O (zc O (zc O .nil))) O) (rr 10 O ?_));refine kc (S.sadd .none O (zt O) (zt O) (by simp only[Zs,ge,BE];omega)) ?_;refine Rr 10 O I ?_;refine Ab.D.lp ⟨i+1,I,I,O,O,(lk_str (by rw[a,linesT_snoc,catT_snoc2])),(lk_int (by rw[a,aftT_snoc])),O,O,O,Zo⟩
 refine ro 3 O ?_;rw[show i=l.length by omega,List.take_length];refine ro 5 O (kR O O ?_);rfl
def ref10_lines{l:List Entry}{f:Int}(q:l.length<=1000)(r:JOk l):Ct prog 69 [.sl (l.map Entry.cs),bv f] (.sl ((Lib.itoa f::linesT f l 0).map fun s=>[.str s])):=by
 refine cI func69 O (kr (kc (S.assign .none O .fW) (rr 5 O (kc (zK base_Decimal call73 O) ?_))));refine RK.c (zM [[_]] ai83 O O O O) ?_;refine rr 15 O ?_;refine OK.loop (G:=Nat) [11] (fun i=>[(0,.sl (l.map Entry.cs)),(1,bv f),(5,.own 11 (i+1)),(2011,.arr 1 ((Lib.itoa f::linesT f (l.take i) 0).map fun s=>[.str s])),(6,bv (aftT (l.take i) 0)),(7,bv i)]) (fun i=>i<=l.length) (fun i=>l.length - i) 0 (Zr _) ⟨O,O,(cw N),(bH N),O,O,Zo⟩ (fun _=>O) ?_;rintro i hi;refine ro 5 O (kc (zk si27 O) (rr 3 O (kB O (fun m=>?_) (fun m=>?_))))
 ·have d:i<l.length:=by omega
  have a:=dT d;have b:=r l[i] (Zt d);have e:=aftT_rng (l.take i) 0 I;have h:((((Lib.itoa l[i].at_++[32])++l[i].vq)++[32])++l[i].text)=jrnS l[i]:=by simp[jrnS]
  have o:=qI b.1;have p:=jS_len b;have g:=sumT_rng (jrnS l[i]) _ e;have n:=qI (wrap_rng g);refine ro 5 O ?_;refine kV (.c (zm O) (.c (zm O) (.c (zI si27 O I O) (.c (S.field fi78_0 .none O (zt O) O) (.c (zV Z8 O O) (.c (zK base_Decimal call73 O) (.c (S.sadd .none O (zt O) (.bj (l:=[32]) O C) (by simp only[Zs,ge,BE];omega)) (.c (zm O) (.c (zm O) (.c (zI si27 O I O) (.c (S.field fi78_1 .none O (zt O) O) (.c (zV Y9 O O) (.c (S.sadd .none O (zt O) (zt O) (by simp only[Zs,ge,BE];omega)) (.c (S.sadd .none O (zt O) (.bj (l:=[32]) O C) (by simp only[Zs,ge,BE];omega)) (.c (zm O) (.c (zm O) (.c (zI si27 O I O) (.c (S.field fi78_2 .none O (zt O) O) (.c (zV Y9 O O) (.c (S.sadd .none O (zt O) (zt O) (by simp only[Zs,ge,BE];omega)) (.c (za O) .nil))))))))))))))))))))) ?_;refine Ab.D.code (kO ?_);rw[h];refine ro 3 O (kc (zK (ref10_Sum (l:=jrnS l[i]) e) call36 O) (rr 10 O (kB O (fun k=>?_) (fun k=>?_))))
  ·refine OK.bN (jm O ?_);refine kc (S.sadd .none O (zt O) (.bj (l:=[32]) O C) (by simp only[Zs,ge,BE];omega)) ?_;refine jm O (kc (zK base_Decimal call73 O) ?_);refine kc (S.sadd .none O (zt O) (zt O) (by simp only[Zs,ge,BE];omega)) ?_;refine rr 6 O ?_;refine RK.c (zM [[_]] ai83 O O O O) ?_;refine kc (zP ai83 O O (by simp[linesT_len];omega) N I (by simp only[maxLen];omega)) ?_;refine Rr 9 O I ?_;refine Ab.D.lp ⟨i+1,I,I,O,O,O,(bH (by rw[a,linesT_snoc];unfold jlnT;first|(rw[Zn (by assumption)];simp)|(rw[Zm (by assumption)];simp))),(lk_int (by rw[a,aftT_snoc])),O,Zo⟩
  refine ro 5 O ?_;refine RK.c (zM [[_]] ai83 O O O O) ?_;refine kc (zP ai83 O O (by simp[linesT_len];omega) N I (by simp only[maxLen];omega)) ?_;refine Rr 9 O I ?_;refine Ab.D.lp ⟨i+1,I,I,O,O,O,(bH (by rw[a,linesT_snoc];unfold jlnT;first|(rw[Zn (by assumption)];simp)|(rw[Zm (by assumption)];simp))),(lk_int (by rw[a,aftT_snoc])),O,Zo⟩
 refine ro 3 O ?_;have j:i=l.length:=by omega
 have t:=linesT_len f l 0;rw[j,List.take_length];refine ro 5 O ?_;refine OK.ret (aA.r1 (.tmp O O (.c (.own O O N) O) O) ?_);rfl
def ref10_Journal{l:List Entry}{f:Int}(g:l.length<=1000)(k:JOk l):Ct prog 35 [.sl (l.map Entry.cs),bv f] (.str (journalT l f)):=by
 refine cI func35 O (OK.IV (t:=1) O O fun e=>?_);have m:=qI e;obtain⟨L,d⟩:∃L,Lib.itoa f::linesT f l 0=L:=⟨_,rfl⟩;have o:L.length=l.length+1:=by rw[←d,ge,linesT_len]
 have c:∀s∈L,s.length<=2060:=fun s a=>by
  rw[←d]at a;rcases ed.1 a with rfl|a
  ·omega
  exact linesT_le f _ _ k I s a
 refine ro 14 O (kc (zK (ref10_lines (l:=l) (f:=f) g k) call69 O) (rr 5 O ?_));rw[d];refine ro 5 O ?_;refine OK.loop (G:=Nat) [] (fun i=>[(5,.str (catT (L.take i))),(6,.sl (L.map fun s=>[.str s])),(7,bv i)]) (fun i=>i<=L.length) (fun i=>L.length - i) 0 (Zr _) ⟨O,O,O,Zo⟩ (fun _=>O) ?_;rintro i hi;refine ro 5 O (kc (zk si83 O) (rr 3 O (kB O (fun j=>?_) (fun j=>?_))))
 ·have b:i<L.length:=by omega
  have h:=catT_len (B:=2060) (L.take i) (fun s a=>c s (LP a));rw[gn]at h;have n:=c L[i] (Zt b);refine ro 8 O (kc (zI si83 O I O) (kc (zV Y9 O O) (kc (S.sadd .none O (zt O) (zt O) I) ?_)));refine kc (S.sadd .none O (zt O) (.bj (l:=[10]) O C) (by simp only[Zs,ge,BE];omega)) ?_;refine Rr 9 O I ?_;refine Ab.D.lp ⟨i+1,I,I,(lk_str (by rw[dT b,catT_snoc];simp)),O,O,Zo⟩
 refine ro 3 O ?_;rw[show i=L.length by omega,List.take_length];refine ro 5 O (kR O O ?_);unfold journalT;rw[d]
def rec_Journal{n:Net}{l:List Entry}{f:Int}(m:n.aS.length<=1000)(k:sS l)(e:l.length<=1000)(j:∀x∈l,x.vq.length<=1000/\x.text.length<=1000):gz prog 33 [.agg n.cs,.sl (l.map Entry.cs),bv f] (.cf [.str (jrnT n l f).1,bv (jrnT n l f).2]):=by
 refine cT func33 O fun g=>?_
 have a:jrnE n l f=aF [(bl n l).2.2,ae (decide (f=1\/f=2)) 15]:=by unfold jrnE fmtE ae;by_cases h:f=1\/f=2<;>simp[h]
 refine ro 11 O (kc (S.dB (TD (n:=n) (l:=l) I k) g call64 .none O (zc O (zc O .nil)) O) ?_);refine rr 12 O (kc (zK rec_isFormat call67 O) (kc (zK ak call66 O) ?_));refine RK.c (zM [[_],[_]] ai189 O O O O) (kc (S.callL (bF (l:=[_,_])) call65 .none O (zc O .nil) (.cons (.p (.own O O) O) .nil) O) ?_);refine rr 9 O (kB O (fun b=>?_) (fun b=>?_))
 ·have d:jrnT n l f=([],jrnE n l f):=Zn (by rw[a];exact b);refine ro 7 O (kS O O O O ?_);rw[d,a];try rfl
 have h0:=Zu.1 b;have d:jrnT n l f=(journalT l f,0):=Zm (by rw[a];exact b);have i:=JOk_of (jrnE_0 (a.trans h0)).1 j;refine ro 6 O (kc (S.dB (rec_journal (l:=l) (f:=f) e i) g call68 .none O (zc O (zc O .nil)) O) (rr 4 O (kS O O O O ?_)));rw[d]
def law_RecordSums{n:Net}{l:List Entry}{tx:ba}{b e:Int}:gz prog 5 [.agg n.cs,.sl (l.map Entry.cs),.agg [.str tx,bv b,bv e]] (.bool true):=by
 refine cT func5 O fun R=>?_
 refine ro 10 O (kc (S.dB (wR) R call9 .none O .nil O) (kc (S.not .none O (zt O)) (rr 9 O (kc (zK (AX (n:=n)) call10 O) (kc (S.not .none O (zt O)) (jm O (RK.split (t:=22) O (fun v=>?_) (fun v=>?_))))))))
 ·refine rr 18 O (kR O O ?_)
  first|(rw[Zm g];rfl)|simp_all
 refine kc (S.move (zg O O) O (zt O)) (kc (S.call (Wc (l:=l)) call11 (zg O O) O (zc O .nil) O) (kc (S.not (zg O O) O (zt O)) (rr 2 O (RK.split (t:=27) O (fun u=>?_) (fun u=>?_)))))
 ·refine rr 13 O (kR O O ?_)
  first|(rw[Zm g];rfl)|simp_all
 refine rr 7 O (kB O (fun P=>?_) (fun P=>?_))
 ·refine ro 5 O (kR O O ?_)
  first|(rw[Zm g];rfl)|simp_all
 have H:mo n=true:=by simpa using v
 have p:Z1 l=true:=by simpa using u
 obtain⟨V,U⟩:=C9 H;obtain⟨T,r⟩:=OL p;have s:∀y∈l,y.text.length<=100000:=fun y B=>by have:=r y B;omega
 have h:∀x∈l,x.vq.length<=1000/\x.text.length<=1000:=fun y B=>by have:=r y B;have:=sh_by p y B;omega
 have F:=@sumT_app (tx.take (tx.length / 2)) (tx.drop (tx.length / 2)) b;rw[io]at F;have E:=sumT_rng (tx.take (tx.length / 2)) b;refine ro 8 O (kc (zK (Aw (l:=tx) (a:=b)) call32 O) (rr 8 O (kV (.c (zL XB O O O O) (.c (zK (se (n:=n) I) call13 O) (.c (zm O) (.c (zK (XE (l:=l) I) call14 O) (.c (zf fi87_2 O) (.c (zl Z8 O O O O) (.c (S.dB (rec_Journal (n:=n) (l:=l) (f:=e) I (Ni s) I h) R call33 .none O (zc O (zc O (zc O .nil))) O) (.c (zm O) (.c (zX O O O) (.c (zX O O O) (.c (za O) (.c (za O) .nil)))))))))))) ?_)));refine rd 5 O (kc (zK (TG (n:=n) (l:=l) I s) call17 O) ?_);refine rr 3 O ?_;refine OK.join (G:=Int) [5] (fun d=>[(1,.sl (l.map Entry.cs)),(5,.ptr 5 0),(1005,.box [.str tx,bv b,bv e]),(7,bv (if 0<=b/\b<=999960 then rY tx b else 0)),(8,bv (if 0<=b/\b<=999960 then 0 else 2)),(9,.str (jrnT n l e).1),(10,bv (jrnT n l e).2),(11,bv d)]) (fun d=>d=jrnE n l e) (fun _=>O) ?_ ?_
 ·refine ro 6 O (kB O (fun i=>?_) (fun i=>?_))
  ·refine ro 3 O (kc (zK (ref10_FormatErr (f:=e)) call34 O) (ja O (RK.nil ?_)));refine Ab.D.lp ⟨_,(by first|exact(jrnE_v (f:=e) i).symm|exact(jrnE_e (f:=e) i).symm),O,O,O,O,O,O,O,O,Zo⟩
  refine OK.skip (Ab.D.lp ⟨_,(by first|exact(jrnE_v (f:=e) i).symm|exact(jrnE_e (f:=e) i).symm),O,O,O,O,O,O,O,O,Zo⟩)
 rintro d rfl;obtain⟨X,W⟩:=jrnT_j n l e;refine OK.join (G:=Unit) [5] (fun _=>[(5,.ptr 5 0),(1005,.box [.str tx,bv b,bv e]),(7,bv (if 0<=b/\b<=999960 then rY tx b else 0)),(8,bv (if 0<=b/\b<=999960 then 0 else 2))]) (fun _=>True) (fun _=>O) ?_ ?_
 ·refine ro 5 O (RK.bh (t:=61) O (fun N=>?_) (fun N=>?_))
  ·refine rr 4 O (RK.bh (t:=65) O (fun M=>?_) (fun M=>?_))
   ·refine rr 28 O (kR O O ?_)
    first|(rw[Zm g];rfl)|simp_all
   refine rr 5 O (RK.bh (t:=70) O (fun L=>?_) (fun L=>?_))
   ·refine rr 23 O (kR O O ?_)
    first|(rw[Zm g];rfl)|simp_all
   refine rr 3 O (RK.bh (t:=73) O (fun k=>?_) (fun k=>?_))
   ·refine rr 3 O (RK.bh (t:=76) O (fun j=>?_) (fun j=>?_))
    ·refine rr 17 O (kR O O ?_)
     first|(rw[Zm g];rfl)|simp_all
    refine rr 4 O ?_;refine kc (S.call (ref10_Journal (l:=l) (f:=e) I (JOk_of (jrnE_0 (by assumption)).1 h)) call35 (zg O O) O (zc O (zc O .nil)) O) ?_;refine rr 6 O (kB O (fun o=>?_) (fun o=>?_))
    ·refine ro 5 O (kR O O ?_)
     first|(rw[Zm g];rfl)|simp_all
    refine OK.skip (Ab.D.lp ⟨(),Zo,O,O,O,O,Zo⟩)
   refine rr 16 O (Ab.D.lp ⟨(),Zo,O,O,O,O,Zo⟩)
  refine rr 12 O (RK.bh (t:=73) O (fun k=>?_) (fun k=>?_))
  ·refine rr 3 O (RK.bh (t:=76) O (fun j=>?_) (fun j=>?_))
   ·refine rr 17 O (kR O O ?_)
    first|(rw[Zm g];rfl)|simp_all
   refine rr 4 O ?_;refine kc (S.call (ref10_Journal (l:=l) (f:=e) I (JOk_of (jrnE_0 (by assumption)).1 h)) call35 (zg O O) O (zc O (zc O .nil)) O) ?_;refine rr 6 O (kB O (fun o=>?_) (fun o=>?_))
   ·refine ro 5 O (kR O O ?_)
    first|(rw[Zm g];rfl)|simp_all
   refine OK.skip (Ab.D.lp ⟨(),Zo,O,O,O,O,Zo⟩)
  refine rr 16 O (Ab.D.lp ⟨(),Zo,O,O,O,O,Zo⟩)
 rintro _ _;refine ro 5 O (kc (zK gx call28 O) (kc (S.jP .none O (zt O)) (kD (kB O (fun m=>?_) (fun m=>?_)))))
 ·have g:¬(0<=b/\b<=999960):=m;refine ro 5 O (RK.bh (t:=92) O (fun K=>?_) (fun K=>?_))
  ·refine rr 6 O (kR O O ?_)
   first|(rw[Zm g];rfl)|simp_all
  refine rr 6 O (kR O O ?_)
  first|(rw[Zm g];rfl)|simp_all
 have g:0<=b/\b<=999960:=Zu.1 m;have Q:=E g;refine ro 8 O (RK.bh (t:=98) O (fun J=>?_) (fun J=>?_))
 ·refine rr 16 O (kR O O ?_)
  first|(rw[Zm g];rfl)|simp_all
 refine rr 5 O (kc (S.call (ref10_Sum (l:=tx) g) call36 (zg O O) O (zc O (zc O .nil)) O) (rr 4 O (kB O (fun A=>?_) (fun A=>?_))))
 ·refine ro 5 O (kR O O ?_)
  first|(rw[Zm g];rfl)|simp_all
 refine ro 7 O ?_;refine kc (S.quo (q:=((tx.length / 2:Nat):Int)) .none O (zt O) (.af O) C (by rw[show((tx.length:Int).tdiv 2)=((tx.length / 2:Nat):Int)from rfl];exact ca _ I) (ca _ I)) ?_;refine rr 4 O ?_;refine kV (.c (zf fi87_0 O) (.c (zl Y9 O O O O) (.c (zm O) (.c (S.ir (hi:=(tx.length / 2)) (l':=tx.take (tx.length / 2)) fR .none O (zt O) (.inl ⟨O,O,O⟩) (.inr ⟨_,_,O,(zt O),O⟩) I I O) (.c (zf fi87_1 O) (.c (zl Z8 O O O O) (.c (zK (Aw (l:=tx.take (tx.length / 2)) (a:=b)) call32 O) (.c (zm O) (.c (zX O O O) (.c (zX O O O) (.c (za O) (.c (za O) .nil)))))))))))) ?_;refine rd 6 O ?_;refine kc (S.ir (lo:=(tx.length / 2)) (l':=tx.drop (tx.length / 2)) fR .none O (zt O) (.inr ⟨_,_,O,(zt O),O⟩) (.inl ⟨O,O,O⟩) I I (by rw[List.take_length])) ?_;refine jm O (kc (zK (Aw (l:=tx.drop (tx.length / 2)) (a:=(if 0<=b/\b<=999960 then rY (tx.take (tx.length / 2)) b else 0))) call32 O) (rr 12 O (RK.bh (t:=132) O (fun z=>?_) (fun z=>?_))))
 ·refine rr 4 O (RK.bh (t:=136) O (fun w=>?_) (fun w=>?_))
  ·refine rr 7 O (kR O O ?_)
   first|(rw[Zm g];rfl)|simp_all
  refine rr 7 O (kR O O ?_)
  first|(rw[Zm g];rfl)|simp_all
 refine rr 11 O (kR O O ?_)
 first|(rw[Zm g];rfl)|simp_all
end Go.Proofs.YtdhdgbnafkeifaaGreatDoor
namespace Go.Proofs.YtdhdgbnafkeifaaGreatDoor
open Go.Ab Tryz
def AO{xs:bi}(h:Shape (.st (.cons .str (.cons (.int .i64) .nil))) xs):∃p:bf,xs=p.cs:=by
 obtain⟨a,b,rfl,⟨s,rfl⟩,c,d,rfl,⟨n,rfl⟩,rfl⟩:=h;exact⟨⟨s,n⟩,rfl⟩
def Gg{xs:bi}(h:Shape (.cons (.sl (.st (.cons .str (.cons (.int .i64) .nil)))) (.cons .str (.cons (.int .i64) (.cons (.st (.cons (.int .i64) (.cons (.int .i64) .nil))) .nil)))) xs):∃p:Net,xs=p.cs:=by
 obtain⟨a,b,rfl,⟨rows,rfl,i⟩,c,d,rfl,⟨s,rfl⟩,e,f,rfl,⟨n,rfl⟩,g,k,rfl,⟨u,v,rfl,⟨lo,rfl⟩,y,z,rfl,⟨hi,rfl⟩,rfl⟩,rfl⟩:=h;obtain⟨l,rfl⟩:=yD (f:=bf.cs) (fun r h=>AO (i r h));exact⟨⟨l,s,n,lo,hi⟩,rfl⟩
end Go.Proofs.YtdhdgbnafkeifaaGreatDoor
namespace Go.Proofs.YtdhdgbnafkeifaaGreatDoor
open Go.Ab Tryz
def SD{xs:bi}(h:Shape (.cons (.int .i64) (.cons .str (.cons .str .nil))) xs):∃p:Entry,xs=p.cs:=by
 obtain⟨a,b,rfl,⟨n,rfl⟩,c,d,rfl,⟨s,rfl⟩,e,f,rfl,⟨t,rfl⟩,rfl⟩:=h;exact⟨⟨n,s,t⟩,rfl⟩
def RE{x:X}(h:Shape (.sl (.st (.cons (.int .i64) (.cons .str (.cons .str .nil))))) [x]):∃l:List Entry,x=.sl (l.map Entry.cs):=by
 obtain⟨rows,b,a⟩:=h;cases b;obtain⟨l,rfl⟩:=yD (f:=Entry.cs) (fun r h=>SD (a r h));grind
end Go.Proofs.YtdhdgbnafkeifaaGreatDoor
namespace Go.Proofs.YtdhdgbnafkeifaaGreatDoor
open Go.Ab Tryz
def sh_text{xs:bi}(h:Shape (.cons .str (.cons (.int .i64) (.cons (.int .i64) .nil))) xs):∃q:ba×Int×Int,xs=[.str q.1,bv q.2.1,bv q.2.2]:=by
 obtain⟨a,b,rfl,⟨s,rfl⟩,c,d,rfl,⟨n,rfl⟩,e,f,rfl,⟨m,rfl⟩,rfl⟩:=h;exact⟨(s,n,m),rfl⟩
