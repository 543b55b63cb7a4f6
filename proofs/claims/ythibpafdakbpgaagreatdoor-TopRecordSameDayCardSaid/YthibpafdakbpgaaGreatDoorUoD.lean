import Derived.Test.YthibpafdakbpgaaGreatDoorUjD
set_option linter.all false
set_option maxHeartbeats 4000000
open List renaming length->R
namespace Go.Proofs.YthibpafdakbpgaaGreatDoor
open Go.Ab Tryz
set_option maxRecDepth 9999
def ver_pne{r:ba}{k:Int}:(!Nq [.s r,.i k] [.s r,.i k])=false:=by simp[Nq,Pl.eq]
def eqSpan:dw prog 52 4:=dw.mk_two (T:=50) (am:=3) V underlying52 V V underlying50 V V isAgg50 sizeOf50 underlying3 isAgg3
def ref10_SamePart{a:Part}:Ct prog 18 [.agg a.cs,.agg a.cs]<|.bool true:=by
 refine cI func18 O<|OK.Qd 0 4 (a.frames.map Frame.cs) O O O λvz=>?_;rw[Zx]at vz;unfold maxLen at vz;refine ro 16 O<|RK.ZS (t:=11) O (λl=>?_) λl=>?_
 ·exact absurd rfl l
 refine rr 4 O<|kc (S.pneq (b:=false) [.s [],.i 0] [.s a.Yr,.i a.YD] [.s a.Yr,.i a.YD] Gx (zg O O) O (zt O) (zt O) O O O O ver_pne)<|rr 9 O<|RK.ZS (t:=25) O (λk=>?_) λk=>?_
 ·exact absurd rfl k
 refine rr 7 O<|RK.ZS (t:=32) O (λj=>?_) λj=>?_
 ·exact absurd rfl j
 refine rr 4 O<|kc (S.lS underlying4 (zg O O) O (zt O)<|zt O)<|rr 2 O<|RK.ZS (t:=39) O (λh=>?_) λh=>?_
 ·simp at h
 refine rr 7 O<|RK.ZS (t:=46) O (λg=>?_) λg=>?_
 ·exact absurd rfl g
 refine rr 4 O<|kc (S.lS underlying4 (zg O O) O (zt O)<|zt O)<|rr 2 O<|RK.ZS (t:=53) O (λf=>?_) λf=>?_
 ·simp at f
 refine rr 4 O<|kc (S.aneq [a.depth.lo.num,a.depth.lo.den,a.depth.hi.num,a.depth.hi.den] [a.depth.lo.num,a.depth.lo.den,a.depth.hi.num,a.depth.hi.den] eqSpan (zg O O) O (zt O) (zt O) O O O O)<|rr 2 O<|RK.ZS (t:=60) O (λe=>?_) λe=>?_
 ·exact absurd rfl e
 refine rr 2 O<|kc (S.OF R_ (zg O O) O<|zt O)<|rr 2 O<|kc (S.OF R_ (zg O O) O<|zt O)<|rr 4 O<|kB O (λm=>?_) λm=>?_
 ·exact absurd rfl m
 refine ro 9 O ?_;refine OK.loop (G:=Nat) [2,3] (λi=>[(2,.ptr 2 0),(1002,.box a.cs),(3,.ptr 3 0),(1003,.box a.cs),(5,bv i)]) (λi=>i<=R a.frames) (λi=>R a.frames - i) 0 (Zr _) ⟨O,O,O,O,O,Zo⟩ (λ_=>O) ?_;rintro i hi;refine ro 6 O<|kc (zk R_ O)<|rr 3 O<|kB O (λo=>?_) λo=>?_
 ·have p:i<R a.frames:=by omega
  refine ro 5 O ?_;refine kV (.c (zf Xk O)<|.c (zl RT O O O O)<|.c (zm O)<|.c (zI R_ O I O)<|.c (S.field L4 .none O (zt O) O)<|.c (zV YK O O)<|.c (zf Xk O)<|.c (zl RT O O O O)<|.c (zm O)<|.c (zI R_ O I O)<|.c (S.field L4 .none O (zt O) O)<|.c (zV YK O O)<|.c (S.neq .none O (zt O)<|zt O)<|.c (zm O)<|.c (S.VN Xk (.yes O O O F) O<|zt O)<|.c (S.YH RT (.yes O O O F) O (zt O) O O O O)<|.c (S.move (.yes O O O F) O<|zt O)<|.c (S.Zi (n:=i) R_ (.yes O O O F) O (zt O) (zt O) O I O)<|.c (S.field Ss (.yes O O O F) O (zt O) O)<|.c (S.Q_ Qq (.yes O O O F) O (zt O) O)<|.c (S.VN Xk (.yes O O O F) O<|zt O)<|.c (S.YH RT (.yes O O O F) O (zt O) O O O O)<|.c (S.move (.yes O O O F) O<|zt O)<|.c (S.Zi (n:=i) R_ (.yes O O O F) O (zt O) (zt O) O I O)<|.c (S.field Ss (.yes O O O F) O (zt O) O)<|.c (S.Q_ Qq (.yes O O O F) O (zt O) O)<|.c (S.call (Me (a:=a.frames[i].values) (b:=a.frames[i].values)) call41 (.yes O O O F) O (zc O<|zc O .nil) O)<|.c (S.Xb (.yes O O O F) O<|zt O)<|.c (S.Ug .none O (zt O) (zt O) F) .nil) ?_;refine Ab.D.code<|kB O (λd=>?_) λd=>?_
  ·simp at d
  refine Ro 8 O I<|Ab.D.lp ⟨i+1,I,I,O,O,O,O,O,Zo⟩
 refine ro 7 O<|kR O O ?_;rfl
def xp:∀(l:List Entry)(H:Z6)(i k:Nat),(runT H i l).2.2=0->(runT H i<|l.take k).2.2=0
 |[],_,_,k,h=>by rw[List.take_nil];exact h
 |x::l,H,i,0,h=>rfl
 |x::l,H,i,k+1,h=>by
  rw[List.take_succ_cons];rw[runT]at h⊢;by_cases e:(Za H x).2=0
  ·rw[Zm<|Zp e]at h⊢;exact xp l _ _ k h
  rw[Zn e]at h;exact absurd h e
variable{l:List Entry}{n:Net}
def UP(h:(Z2 n l).2.2=0)(k:Nat):(Z2 n<|l.take k).2.2=0:=by
 obtain⟨a,b,e⟩:=Ur h;rw[Jn a<|by rw[sc];omega];rw[e]at h;exact xp _ _ _ k h
def backT_0(h:¬(Z2 n l).2.2≠0):Xi n l=(Z2 n l).1.st:=Zm h
def backT_1(h:(Z2 n l).2.2≠0):Xi n l=State.zero:=Zn h
def plain_recipes(A:HA):A.plain.st.ZJ=A.ZF.map (·.r):=by show(A.ZF.map _).map _=_;rw[fw];rfl
def plain_coils(A:HA):A.plain.st.Z5=A.Z5.map (·.c):=by show(A.Z5.map _).map _=_;rw[fw];rfl
def plain_parts(A:HA):A.plain.st.parts=A.parts.map (·.p):=by show(A.parts.map _).map _=_;rw[fw];rfl
def st_cs(A:HA):A.plain.st.cs=[.sl<|A.ZF.map λv=>v.r.cs,.sl<|A.Z5.map λv=>v.c.cs,.sl<|A.parts.map λv=>v.p.cs,.sl<|A.Z3.map λi=>[bv (A.plain.p i).num],bv A.env.parts,bv A.env.trim,.sl<|A.env.rows.map λl=>[.sl<|l.map Range.cs]]:=by
 unfold State.cs;rw[plain_recipes,plain_coils,plain_parts];show [X.sl _,X.sl _,X.sl _,X.sl<|(A.Z3.map _).map _,X.int .i64 A.env.parts,X.int .i64 A.env.trim,_]=_;rw[fw,fw,fw,fw];rfl
def PhLt{p:Ph}{l:List Ph}(h:p∈l):SizeOf.sizeOf p.body<SizeOf.sizeOf l:=by
 have a:=List.sizeOf_lt_of_mem h;cases p;simp only[Ph.mk.sizeOf_spec]at a;show SizeOf.sizeOf (_:List Ph)<_;simp only[Ph.body];omega
def coil_pne{r:ba}{a b:Int}:(!Nq [.s r,.i a,.i b] [.s r,.i a,.i b])=false:=by simp[Nq,Pl.eq]
def rec_state{A:HA}{m:Int}(d:A.Ok m){J:bm}(E:Y2 J)(g:∀h Y w,J h Y w->Z9 A.mem h Y w):Vi prog 44 [] [.raw<|pV A.b] [(3000,.res J)] [(3000,.res J)]<|.agg A.plain.st.cs:=by
 refine cG func44 O λ{_ _}=>?_
 have x:=d.m0;have y:=d.lv;have C:=d.lc;have z:=d.lp;have B:=d.lm;refine ro 10 O ?_;refine kc (zJ (us:=[bv A.env.parts,bv A.env.trim,.sl<|A.env.rows.map λl=>[.sl<|l.map Range.cs]]) Md O<|J_ g<|Z9.KL (k:=.Y1) (xs:=A.cs) O ⟨.same _,.same _,.same _,Zo⟩ O) ?_;refine kc (zU bu40 O O)<|rr 10 O<|kc (zH (u:=.sl<|A.ZF.map P6) DK O<|J_ g<|Z9.Xh (k:=.Y1) O O<|.sl d.vs)<|kc (zk DH O)<|rr 4 O<|OK.VL 3 0 880 3 O O O O O ?_;refine OK.loop (G:=Nat) [2,3,880] (λi=>[(0,.raw<|pV A.b),(2,.ptr 2 0),(1002,.box [.ZM,.ZM,.ZM,.ZM,bv 0,bv 0,.ZM]),(3,.ptr 3 0),(1003,.box [.own 880 i,.ZM,.ZM,.ZM,bv A.env.parts,bv A.env.trim,.sl<|A.env.rows.map λl=>[.sl<|l.map Range.cs]]),(2880,.arr 3<|(A.ZF.take i).map λv=>v.r.cs),(20,.sl<|A.ZF.map P6),(21,bv<|R A.ZF),(22,bv i),(3000,.res J)]) (λi=>i<=R A.ZF) (λi=>R A.ZF - i) 0 (Zr _) ⟨O,O,O,O,O,(ZX N),O,O,O,O,Zo⟩ (λ_=>O) ?_;rintro i hi;refine ro 6 O<|kB O (λt=>?_) λt=>?_
 ·have a:i<R A.ZF:=by omega
  obtain⟨v,f⟩:=Yh a;have e:A.ZF[i]=v:=by rw[Zv a]at f;exact aγ f
  refine ro 6 O<|kc (zI DH O I O) ?_;refine rr 4 O ?_;rw[e];refine kV (.c (zf QD O)<|.c (zl yy O O O O)<|.c (zm O)<|.c (zn O O)<|.c (zr Oy O)<|.c (zJ (us:=v.r.cs) ti127 O<|J_ g<|Z9.KL (k:=.v i) (xs:=v.cs) (HA.sv f) ⟨.same _,.same _,.same _,Zo⟩ O)<|.c (zM [[_,_,_]] ai32 O O O O)<|.c (zP ai32 O O (by rw[Zx,List.length_take_of_le hi]) N I<|by simp only[maxLen];omega)<|.c (zf QD O)<|.c (zS yy O O O O O O) .nil) ?_;refine Rd 6 O I ?_;refine Ab.D.lp ⟨i+1,I,I,O,O,O,O,O,(ZX<|by rw[mv a,ne];simp only[ta,H2,e];rfl),O,O,O,O,Zo⟩
 obtain rfl:i=R A.ZF:=by omega
 rw[List.take_length];refine ro 8 O<|kc (zH (u:=.sl<|A.Z5.map Lg) AT O<|J_ g<|Z9.Xh (k:=.Y1) O O<|.sl d.cs)<|kc (zk rz O)<|rr 4 O<|OK.TP 3 0 O O O O (Zx ..) O<|OK.VL 3 1 881 3 O O O O O ?_;refine OK.loop (G:=Nat) [2,3,881] (λi=>[(0,.raw<|pV A.b),(2,.ptr 2 0),(1002,.box [.ZM,.ZM,.ZM,.ZM,bv 0,bv 0,.ZM]),(3,.ptr 3 0),(1003,.box [.sl<|A.ZF.map λv=>v.r.cs,.own 881 i,.ZM,.ZM,bv A.env.parts,bv A.env.trim,.sl<|A.env.rows.map λl=>[.sl<|l.map Range.cs]]),(2881,.arr 3<|(A.Z5.take i).map λv=>v.c.cs),(39,.sl<|A.Z5.map Lg),(40,bv<|R A.Z5),(41,bv i),(3000,.res J)]) (λi=>i<=R A.Z5) (λi=>R A.Z5 - i) 0 (Zr _) ⟨O,O,O,O,O,(ZX N),O,O,O,O,Zo⟩ (λ_=>O) ?_;rintro i hi;refine ro 6 O<|kB O (λs=>?_) λs=>?_
 ·have a:i<R A.Z5:=by omega
  obtain⟨v,f⟩:=Yh a;have e:A.Z5[i]=v:=by rw[Zv a]at f;exact aγ f
  refine ro 6 O<|kc (zI rz O I O) ?_;refine rr 4 O ?_;rw[e];refine kV (.c (zf OH O)<|.c (zl C4 O O O O)<|.c (zm O)<|.c (zn O O)<|.c (zr Qn O)<|.c (zJ (us:=v.c.cs) ti170 O<|J_ g<|Z9.KL (k:=.c i) (xs:=v.cs) (HA.G6 f) ⟨.same _,.same _,.same _,Zo⟩ O)<|.c (zM [[_,_,_]] ai33 O O O O)<|.c (zP ai33 O O (by rw[Zx,List.length_take_of_le hi]) N I<|by simp only[maxLen];omega)<|.c (zf OH O)<|.c (zS C4 O O O O O O) .nil) ?_;refine Rd 6 O I ?_;refine Ab.D.lp ⟨i+1,I,I,O,O,O,O,O,(ZX<|by rw[mv a,ne];simp only[ta,H2,e];rfl),O,O,O,O,Zo⟩
 obtain rfl:i=R A.Z5:=by omega
 rw[List.take_length];refine ro 8 O<|kc (zH (u:=.sl<|A.parts.map Su) TU O<|J_ g<|Z9.Xh (k:=.Y1) O O<|.sl d.ps)<|kc (zk VC O)<|rr 4 O<|OK.TP 3 1 O O O O (Zx ..) O<|OK.VL 3 2 882 13 O O O O O ?_;refine OK.loop (G:=Nat) [2,3,882] (λi=>[(0,.raw<|pV A.b),(2,.ptr 2 0),(1002,.box [.ZM,.ZM,.ZM,.ZM,bv 0,bv 0,.ZM]),(3,.ptr 3 0),(1003,.box [.sl<|A.ZF.map λv=>v.r.cs,.sl<|A.Z5.map λv=>v.c.cs,.own 882 i,.ZM,bv A.env.parts,bv A.env.trim,.sl<|A.env.rows.map λl=>[.sl<|l.map Range.cs]]),(2882,.arr 13<|(A.parts.take i).map λv=>v.p.cs),(58,.sl<|A.parts.map Su),(59,bv<|R A.parts),(60,bv i),(3000,.res J)]) (λi=>i<=R A.parts) (λi=>R A.parts - i) 0 (Zr _) ⟨O,O,O,O,O,(ZX N),O,O,O,O,Zo⟩ (λ_=>O) ?_;rintro i hi;refine ro 6 O<|kB O (λq=>?_) λq=>?_
 ·have a:i<R A.parts:=by omega
  obtain⟨v,f⟩:=Yh a;have e:A.parts[i]=v:=by rw[Zv a]at f;exact aγ f
  refine ro 6 O<|kc (zI VC O I O) ?_;refine rr 4 O ?_;rw[e];refine kV (.c (zf Xu O)<|.c (zl WC O O O O)<|.c (zm O)<|.c (zn O O)<|.c (zr Ym O)<|.c (zJ (us:=v.p.cs) C1 O<|J_ g<|Z9.KL (k:=.p i) (xs:=v.cs) (HA.XW f) ⟨.same _,.same _,.same _,.same _,.sl<|d.fs? f,.same _,.same _,.same _,.same _,.same _,.same _,.same _,.same _,Zo⟩ O)<|.c (zM [[_,_,_,_,_,_,_,_,_,_,_,_,_]] ai34 O O O O)<|.c (zP ai34 O O (by rw[Zx,List.length_take_of_le hi]) N I<|by simp only[maxLen];omega)<|.c (zf Xu O)<|.c (zS WC O O O O O O) .nil) ?_;refine Rd 6 O I ?_;refine Ab.D.lp ⟨i+1,I,I,O,O,O,O,O,(ZX<|by rw[mv a,ne];simp only[ta,H2,e];rfl),O,O,O,O,Zo⟩
 obtain rfl:i=R A.parts:=by omega
 rw[List.take_length];refine ro 8 O<|kc (zH (u:=.sl<|A.Z3.map λi=>[.raw<|pV<|A.pb i]) TU O<|J_ g<|Z9.Xh (k:=.Y1) O O<|.sl d.ms) ?_;refine kc (zk VC O)<|rr 4 O<|OK.TP 3 2 O O O O (Zx ..) O<|OK.VL 3 3 883 1 O O O O O ?_;refine OK.loop (G:=Nat) [2,3,883] (λi=>[(0,.raw<|pV A.b),(2,.ptr 2 0),(1002,.box [.ZM,.ZM,.ZM,.ZM,bv 0,bv 0,.ZM]),(3,.ptr 3 0),(1003,.box [.sl<|A.ZF.map λv=>v.r.cs,.sl<|A.Z5.map λv=>v.c.cs,.sl<|A.parts.map λv=>v.p.cs,.own 883 i,bv A.env.parts,bv A.env.trim,.sl<|A.env.rows.map λl=>[.sl<|l.map Range.cs]]),(2883,.arr 1<|(A.Z3.take i).map λi=>[bv (A.plain.p i).num]),(77,.sl<|A.Z3.map λi=>[.raw<|pV<|A.pb i]),(78,bv<|R A.Z3),(79,bv i),(3000,.res J)]) (λi=>i<=R A.Z3) (λi=>R A.Z3 - i) 0 (Zr _) ⟨O,O,O,O,O,(ZX N),O,O,O,O,Zo⟩ (λ_=>O) ?_;rintro i hi;refine ro 6 O<|kB O (λo=>?_) λo=>?_
 ·have a:i<R A.Z3:=by omega
  have n:=d.mi _<|Zt a;obtain⟨v,f⟩:=Yh n;have j:=HA.RQ f;refine ro 6 O<|kc (zI VC O I O) ?_;refine rr 4 O ?_;rw[HA.CS f];refine kV (.c (zf DB O)<|.c (zl Qq O O O O)<|.c (zm O)<|.c (zn O O)<|.c (zr Ym O)<|.c (zr JC O)<|.c (zH YK O<|J_ g<|Z9.Xh (k:=.p A.Z3[i]) (HA.XW f) O<|.same _)<|.c (zM [[_]] sL O O O O)<|.c (zP sL O O (by rw[Zx,List.length_take_of_le hi]) N I<|by simp only[maxLen];omega)<|.c (zf DB O)<|.c (zS Qq O O O O O O) .nil) ?_;refine Rd 6 O I ?_;refine Ab.D.lp ⟨i+1,I,I,O,O,O,O,O,(ZX<|by rw[mv a,ne];simp only[ta,H2,j]),O,O,O,O,Zo⟩
 obtain rfl:i=R A.Z3:=by omega
 rw[List.take_length];refine ro 3 O<|OK.TP 3 3 O O O O (Zx ..) O<|ro 5 O<|OK.ret ⟨Y3.r1 (zy O O Z_ O) ?_,O,Zo⟩;rw[st_cs];try rfl
def rec_StateOf(f:R n.plan<=1000)(i:N6 l):Q7 prog 12 [.agg n.cs,.sl<|l.map Entry.cs]<|.Yy [.agg (Xi n l).cs,bv (Z2 n l).2.2]:=by
 refine cT func12 O λg=>?_
 refine ro 11 O ?_;refine RK.Ng (((R2 f i).at g)) (λ_=>Mf.ZV _ _ _) (λ_=>Mf.mono) call43 O (zc O<|zc O .nil) O λA=>?_
 refine rr 16 O<|kB O (λa=>?_) λa=>?_
 ·refine kr<|kc (zU bu40 O O)<|rr 5 O<|OK.ret<|Y3.r2 (.XU O O O O Z_ O<|.k .ZM<|.k .ZM<|.k .ZM<|.k .ZM<|.k (.same O)<|.k (.same O)<|.k .ZM .z) (zo O O) ?_;rw[backT_1 a]
  try rfl
 have b:(Z2 n l).2.2=0:=Zu.1 a;refine ro 3 O<|OK.Ld b O λd c=>?_;rw[Jm b];refine OK.R3<|jm O<|kc (S.Wc ((λJ e h=>(rec_state d e h).Tq e)) call44 .none O (zc O .nil) O O) ?_;refine rr 4 O<|kT O O Z_ O O O ?_;rw[backT_0 a,c,b]
 try rfl
def ref5_Same0{l:List Ph}(e:∀p∈l,Ct prog 78 [.sl<|p.body.map Ph.cs,.sl<|p.body.map Ph.cs]<|.bool true):Ct prog 78 [.sl<|l.map Ph.cs,.sl<|l.map Ph.cs]<|.bool true:=by
 refine cI func78 O<|OK.XF (v9:=l.map Ph.cs) (t:=0) O O λvz=>?_;rw[Zx]at vz;unfold maxLen at vz;rw[Nh];refine ro 9 O<|kc (zk X1 O)<|jm O<|kc (zk X1 O)<|rr 3 O<|kB O (λa=>?_) λa=>?_
 ·exact absurd rfl a
 refine ro 9 O ?_;refine OK.loop (G:=Nat) [] (λi=>[(0,.sl<|l.map Ph.cx),(1,.sl<|l.map Ph.cx),(5,bv i)]) (λi=>i<=R l) (λi=>R l - i) 0 (Zr _) ⟨O,O,O,Zo⟩ (λ_=>O) ?_;rintro i hi;refine ro 5 O<|kc (zk X1 O)<|rr 3 O<|kB O (λd=>?_) λd=>?_
 ·have b:i<R l:=by omega
  refine ro 5 O ?_;refine kV (.c (zm O)<|.c (zm O)<|.c (zI X1 O I O)<|.c (S.field vP .none O (zt O) O)<|.c (zV YK O O)<|.c (zm O)<|.c (zm O)<|.c (zI X1 O I O)<|.c (S.field vP .none O (zt O) O)<|.c (zV YK O O)<|.c (S.neq .none O (zt O)<|zt O)<|.c (zm O)<|.c (S.move (.yes O O O F) O<|zt O)<|.c (S.move (.yes O O O F) O<|zt O)<|.c (S.Zi (n:=i) X1 (.yes O O O F) O (zt O) (zt O) O I O)<|.c (S.field fi232_1 (.yes O O O F) O (zt O) O)<|.c (S.Q_ YK (.yes O O O F) O (zt O) O)<|.c (S.move (.yes O O O F) O<|zt O)<|.c (S.move (.yes O O O F) O<|zt O)<|.c (S.Zi (n:=i) X1 (.yes O O O F) O (zt O) (zt O) O I O)<|.c (S.field fi232_1 (.yes O O O F) O (zt O) O)<|.c (S.Q_ YK (.yes O O O F) O (zt O) O)<|.c (S.neq (.yes O O O F) O (zt O)<|zt O)<|.c (S.Ug .none O (zt O) (zt O) F)<|.c (zm O)<|.c (S.move (.yes O O O F) O<|zt O)<|.c (S.move (.yes O O O F) O<|zt O)<|.c (S.Zi (n:=i) X1 (.yes O O O F) O (zt O) (zt O) O I O)<|.c (S.field fi232_2 (.yes O O O F) O (zt O) O)<|.c (S.Q_ YK (.yes O O O F) O (zt O) O)<|.c (S.move (.yes O O O F) O<|zt O)<|.c (S.move (.yes O O O F) O<|zt O)<|.c (S.Zi (n:=i) X1 (.yes O O O F) O (zt O) (zt O) O I O)<|.c (S.field fi232_2 (.yes O O O F) O (zt O) O)<|.c (S.Q_ YK (.yes O O O F) O (zt O) O)<|.c (S.neq (.yes O O O F) O (zt O)<|zt O)<|.c (S.Ug .none O (zt O) (zt O) F)<|.c (zm O)<|.c (S.move (.yes O O O F) O<|zt O)<|.c (S.move (.yes O O O F) O<|zt O)<|.c (S.Zi (n:=i) X1 (.yes O O O F) O (zt O) (zt O) O I O)<|.c (S.field Gu (.yes O O O F) O (zt O) O)<|.c (S.Q_ YK (.yes O O O F) O (zt O) O)<|.c (S.move (.yes O O O F) O<|zt O)<|.c (S.move (.yes O O O F) O<|zt O)<|.c (S.Zi (n:=i) X1 (.yes O O O F) O (zt O) (zt O) O I O)<|.c (S.field Gu (.yes O O O F) O (zt O) O)<|.c (S.Q_ YK (.yes O O O F) O (zt O) O)<|.c (S.neq (.yes O O O F) O (zt O)<|zt O)<|.c (S.Ug .none O (zt O) (zt O) F)<|.c (zm O)<|.c (S.move (.yes O O O F) O<|zt O)<|.c (S.move (.yes O O O F) O<|zt O)<|.c (S.Zi (n:=i) X1 (.yes O O O F) O (zt O) (zt O) O I O)<|.c (S.field fi232_4 (.yes O O O F) O (zt O) O)<|.c (S.Q_ YK (.yes O O O F) O (zt O) O)<|.c (S.move (.yes O O O F) O<|zt O)<|.c (S.move (.yes O O O F) O<|zt O)<|.c (S.Zi (n:=i) X1 (.yes O O O F) O (zt O) (zt O) O I O)<|.c (S.field fi232_4 (.yes O O O F) O (zt O) O)<|.c (S.Q_ YK (.yes O O O F) O (zt O) O)<|.c (S.neq (.yes O O O F) O (zt O)<|zt O)<|.c (S.Ug .none O (zt O) (zt O) F)<|.c (zm O)<|.c (S.move (.yes O O O F) O<|zt O)<|.c (S.move (.yes O O O F) O<|zt O)<|.c (S.Zi (n:=i) X1 (.yes O O O F) O (zt O) (zt O) O I O)<|.c (S.field gK (.yes O O O F) O (zt O) O)<|.c (S.Q_ Jd (.yes O O O F) O (zt O) O)<|.c (S.move (.yes O O O F) O<|zt O)<|.c (S.move (.yes O O O F) O<|zt O)<|.c (S.Zi (n:=i) X1 (.yes O O O F) O (zt O) (zt O) O I O)<|.c (S.field gK (.yes O O O F) O (zt O) O)<|.c (S.Q_ Jd (.yes O O O F) O (zt O) O)<|.c (S.call (e l[i]<|Zt b) call78 (.yes O O O F) O (zc O<|zc O .nil) O)<|.c (S.not (.yes O O O F) O<|zt O)<|.c (S.Ug .none O (zt O) (zt O) F) .nil) ?_;refine Rd 10 O I<|Ab.D.lp ⟨i+1,I,I,O,O,O,Zo⟩
 refine ro 7 O<|kR O O ?_;rfl
def ref5_Same:∀(d:Nat)(l:List Ph),SizeOf.sizeOf l<d->Ct prog 78 [.sl<|l.map Ph.cs,.sl<|l.map Ph.cs] (.bool true)
 |0,_,h=>absurd h<|bπ _
 |d+1,l,h=>ref5_Same0 λp a=>ref5_Same d p.body (by have:=PhLt a;omega)
def ref10_SameState{s:State}:Ct prog 36 [.agg s.cs,.agg s.cs]<|.bool true:=by
 refine cI func36 O<|OK.Qd 0 0 (s.ZJ.map Rec.cs) O O O λf=>?_;rw[Zx]at f;unfold maxLen at f;refine OK.Qd 0 1 (s.Z5.map XA.cs) O O O λe=>?_
 rw[Zx]at e;unfold maxLen at e;refine OK.Qd 0 2 (s.parts.map Part.cs) O O O λd=>?_
 rw[Zx]at d;unfold maxLen at d;refine ro 12 O<|kc (zk dy O)<|rr 2 O<|kc (zk dy O)<|rr 2 O<|RK.ZS (t:=15) O (λl=>?_) λl=>?_
 ·exact absurd rfl l
 refine rr 2 O<|kc (S.OF xU (zg O O) O<|zt O)<|rr 2 O<|kc (S.OF xU (zg O O) O<|zt O)<|rr 3 O<|RK.ZS (t:=24) O (λk=>?_) λk=>?_
 ·exact absurd rfl k
 refine rr 2 O<|kc (S.OF Xr (zg O O) O<|zt O)<|rr 2 O<|kc (S.OF Xr (zg O O) O<|zt O)<|rr 3 O<|RK.ZS (t:=33) O (λj=>?_) λj=>?_
 ·exact absurd rfl j
 refine rr 4 O<|kc (S.call (Me (a:=s.Z3) (b:=s.Z3)) call41 (zg O O) O (zc O<|zc O .nil) O)<|kc (S.Xb (zg O O) O<|zt O)<|rr 2 O<|RK.ZS (t:=41) O (λh=>?_) λh=>?_
 ·exact absurd rfl h
 refine rr 4 O<|kc (S.call (ref_SameEnvelope (a:=s.env) (b:=s.env)) call77 (zg O O) O (zc O<|zc O .nil) O)<|kc (S.Xb (zg O O) O<|zt O)<|rr 3 O<|kB O (λm=>?_) λm=>?_
 ·exact absurd rfl m
 refine ro 9 O ?_;refine OK.loop (G:=Nat) [2,3] (λi=>[(2,.ptr 2 0),(1002,.box s.cs),(3,.ptr 3 0),(1003,.box s.cs),(5,bv i)]) (λi=>i<=R s.ZJ) (λi=>R s.ZJ - i) 0 (Zr _) ⟨O,O,O,O,O,Zo⟩ (λ_=>O) ?_;rintro i hi;refine ro 6 O<|kc (zk dy O)<|rr 3 O<|kB O (λq=>?_) λq=>?_
 ·have g:i<R s.ZJ:=by omega
  refine ro 5 O ?_;refine kV (.c (zf QD O)<|.c (zl yy O O O O)<|.c (zm O)<|.c (zI dy O I O)<|.c (S.field Mx .none O (zt O) O)<|.c (S.Vj OI .none O (zt O) O O)<|.c (zf QD O)<|.c (zl yy O O O O)<|.c (zm O)<|.c (zI dy O I O)<|.c (S.field Mx .none O (zt O) O)<|.c (S.Vj OI .none O (zt O) O O)<|.c (S.pneq (b:=false) [.s [],.i 0] [.s s.ZJ[i].name,.i s.ZJ[i].YD] [.s s.ZJ[i].name,.i s.ZJ[i].YD] Gx .none O (zt O) (zt O) O O O O ver_pne)<|.c (zm O)<|.c (S.VN QD (.yes O O O W) O<|zt O)<|.c (S.YH yy (.yes O O O W) O (zt O) O O O O)<|.c (S.move (.yes O O O W) O<|zt O)<|.c (S.Zi (n:=i) dy (.yes O O O W) O (zt O) (zt O) O I O)<|.c (S.field Dz (.yes O O O W) O (zt O) O)<|.c (S.Q_ Jd (.yes O O O W) O (zt O) O)<|.c (S.VN QD (.yes O O O W) O<|zt O)<|.c (S.YH yy (.yes O O O W) O (zt O) O O O O)<|.c (S.move (.yes O O O W) O<|zt O)<|.c (S.Zi (n:=i) dy (.yes O O O W) O (zt O) (zt O) O I O)<|.c (S.field Dz (.yes O O O W) O (zt O) O)<|.c (S.Q_ Jd (.yes O O O W) O (zt O) O)<|.c (S.call (ref5_Same _ s.ZJ[i].phases<|cπ _) call78 (.yes O O O W) O (zc O<|zc O .nil) O)<|.c (S.not (.yes O O O W) O<|zt O)<|.c (S.Ug .none O (zt O) (zt O) W) .nil) ?_;refine Rd 10 O I<|Ab.D.lp ⟨i+1,I,I,O,O,O,O,O,Zo⟩
 refine ro 9 O ?_;refine OK.loop (G:=Nat) [2,3] (λi=>[(2,.ptr 2 0),(1002,.box s.cs),(3,.ptr 3 0),(1003,.box s.cs),(6,bv i)]) (λi=>i<=R s.Z5) (λi=>R s.Z5 - i) 0 (Zr _) ⟨O,O,O,O,O,Zo⟩ (λ_=>O) ?_;rintro i hi;refine ro 6 O<|kc (zk xU O)<|rr 3 O<|kB O (λp=>?_) λp=>?_
 ·have g:i<R s.Z5:=by omega
  refine ro 5 O<|kV (.c (zf OH O)<|.c (zl C4 O O O O)<|.c (zm O)<|.c (zI xU O I O)<|.c (S.Vj ti170 .none O (zt O) O O)<|.c (zf OH O)<|.c (zl C4 O O O O)<|.c (zm O)<|.c (zI xU O I O)<|.c (S.Vj ti170 .none O (zt O) O O)<|.c (S.pneq (b:=false) [.s [],.i 0,.i 0] [.s s.Z5[i].name,.i s.Z5[i].Wb,.i s.Z5[i].ZA] [.s s.Z5[i].name,.i s.Z5[i].Wb,.i s.Z5[i].ZA] eqp170 .none O (zt O) (zt O) O O O O coil_pne) .nil) ?_;refine Rd 10 O I<|Ab.D.lp ⟨i+1,I,I,O,O,O,O,O,Zo⟩
 refine ro 9 O ?_;refine OK.loop (G:=Nat) [2,3] (λi=>[(2,.ptr 2 0),(1002,.box s.cs),(3,.ptr 3 0),(1003,.box s.cs),(7,bv i)]) (λi=>i<=R s.parts) (λi=>R s.parts - i) 0 (Zr _) ⟨O,O,O,O,O,Zo⟩ (λ_=>O) ?_;rintro i hi;refine ro 6 O<|kc (zk Xr O)<|rr 3 O<|kB O (λo=>?_) λo=>?_
 ·have g:i<R s.parts:=by omega
  refine ro 5 O<|kV (.c (zf Xu O)<|.c (zl WC O O O O)<|.c (zm O)<|.c (zI Xr O I O)<|.c (S.Vj C1 .none O (zt O) O O)<|.c (zf Xu O)<|.c (zl WC O O O O)<|.c (zm O)<|.c (zI Xr O I O)<|.c (S.Vj C1 .none O (zt O) O O)<|.c (zK (ref10_SamePart (a:=s.parts[i])) call18 O)<|.c (S.not .none O<|zt O) .nil) ?_;refine Rd 10 O I<|Ab.D.lp ⟨i+1,I,I,O,O,O,O,O,Zo⟩
 refine ro 7 O<|kR O O ?_;rfl
variable{xs:bi}
def u5(h:Shape (.st<|.cons .str<|.cons (.int .i64) .nil) xs):∃p:Ze,xs=p.cs:=by
 obtain⟨a,b,rfl,⟨s,rfl⟩,c,d,rfl,⟨n,rfl⟩,rfl⟩:=h;exact⟨⟨s,n⟩,rfl⟩
def cW(h:Shape (.cons (.sl<|.st<|.cons .str<|.cons (.int .i64) .nil)<|.cons .str<|.cons (.int .i64)<|.cons (.st<|.cons (.int .i64)<|.cons (.int .i64) .nil) .nil) xs):∃p:Net,xs=p.cs:=by
 obtain⟨a,b,rfl,⟨v9,rfl,i⟩,c,d,rfl,⟨s,rfl⟩,e,f,rfl,⟨n,rfl⟩,g,k,rfl,⟨u,v,rfl,⟨lo,rfl⟩,y,z,rfl,⟨hi,rfl⟩,rfl⟩,rfl⟩:=h;obtain⟨l,rfl⟩:=EF (f:=Ze.cs) λr h=>u5<|i r h;exact⟨⟨l,s,n,lo,hi⟩,rfl⟩
def qT(h:Shape (.cons (.int .i64)<|.cons .str<|.cons .str .nil) xs):∃p:Entry,xs=p.cs:=by
 obtain⟨a,b,rfl,⟨n,rfl⟩,c,d,rfl,⟨s,rfl⟩,e,f,rfl,⟨t,rfl⟩,rfl⟩:=h;exact⟨⟨n,s,t⟩,rfl⟩
theorem AB{x:X}(h:Shape (.sl<|.st<|.cons (.int .i64)<|.cons .str<|.cons .str .nil) [x]):∃l:List Entry,x=.sl (l.map Entry.cs):=by
 obtain⟨v9,b,a⟩:=h;cases b;obtain⟨l,rfl⟩:=EF (f:=Entry.cs) λr h=>qT<|a r h;grind
