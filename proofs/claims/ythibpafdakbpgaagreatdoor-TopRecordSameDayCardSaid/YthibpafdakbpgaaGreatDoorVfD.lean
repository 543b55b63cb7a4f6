import Derived.Test.YthibpafdakbpgaaGreatDoorVqD
set_option linter.all false
open List renaming length->R
namespace Go.Proofs.YthibpafdakbpgaaGreatDoor
open Go.Ab Tryz
set_option maxRecDepth 9999
def rec_DJournal{b:Nat}{n:Net}{o:List Entry}{f:Int}(vz:R o<=1000)(c:JOk o):U_ prog 33 [] [.raw<|pV b,bv f] [(3000,.res<|Z9<|dskM b<|dskC n o)] [(3000,.res<|Z9<|dskM b<|dskC n o)]<|.str (if f=1\/f=2 then VD o f else []):=by
 refine cH func33 O λd=>?_
 refine ro 9 O<|kc (S.Km underlying82 .none O<|zt O)<|rr 2 O<|kc (S.call (ga (f:=f)) call71 (zg O O) O (zc O .nil) O)<|kc (S.Xb (zg O O) O<|zt O)<|rr 3 O<|kB O (λa=>?_) λa=>?_
 ·refine ro 5 O<|OK.ret ⟨Y3.r1 (zo O O) ?_,O,Zo⟩;rw[Zm a]
  try rfl
 refine ro 7 O ?_;refine kc (zH (u:=.sl<|o.map Entry.cs) ti27 O<|Z9.Xh (k:=()) (xs:=dskC n o) O O<|.same _)<|jm O<|kc (S.Xo (dZ (l:=o) (f:=f) vz c) d call72 .none O (zc O<|zc O .nil) O) ?_;refine rr 3 O<|OK.ret ⟨Y3.r1 (zo O O) ?_,O,Zo⟩;rw[Zn<|Zu.1 a]
 try rfl
set_option maxHeartbeats 4000000 in
def law_TopRecordSameDay{n:Net}{l:List Entry}{q:ba}:Q7 prog 7 [.agg n.cs,.sl<|l.map Entry.cs,.str q]<|.bool true:=by
 refine cT func7 O λd=>?_
 refine ro 9 O<|kc (S.Xo top_awake d call28 .none O .nil O)<|kc (S.not .none O<|zt O)<|rr 9 O<|kc (zK (tK (n:=n)) call9 O)<|kc (S.not .none O<|zt O)<|jm O<|RK.split (t:=30) O (λT=>?_) λT=>?_
 ·refine rr 23 O (kR O O ?_)
  first|rfl|simp
 refine kc (S.move (zg O O) O<|zt O)<|kc (S.call (C2 (l:=l)) call10 (zg O O) O (zc O .nil) O)<|kc (S.not (zg O O) O<|zt O)<|rr 2 O<|RK.split (t:=35) O (λQ=>?_) λQ=>?_
 ·refine rr 18 O (kR O O ?_)
  first|rfl|simp
 have X:NK n=true:=by simpa using T
 have V:Xv l=true:=by simpa using Q
 obtain⟨hl1,hl2⟩:=mN X;obtain⟨hll,W⟩:=dz V;have a:∀y∈l,R y.text<=100000:=λy v=>by have:=W y v;omega
 refine rr 2 O<|kc (S.call (G9 (n:=n) (l:=l) I a) call11 (zg O O) O (zc O<|zc O .nil) O) ?_;refine rr 3 O<|RK.ZS (t:=41) O (λP=>?_) λP=>?_
 ·refine rr 12 O (kR O O ?_)
  first|rfl|simp
 refine rr 6 O<|kB O (λc45=>?_) λc45=>?_
 ·refine ro 5 O (kR O O ?_)
  first|rfl|simp
 have hq:R q<=40:=by omega
 have h0:(Z2 n l).2.2=0:=Zu.1 P;have e:∀x∈l,R x.OR<=1000/\R x.text<=1000:=λy v=>by have:=K6 h0 y v;have h1:=this.by12;have h2:=this.text;omega
 have w:=JOk_of h0 e;obtain⟨hj2,hj6⟩:=DJ (f:=1) (.inl rfl) h0;have J:hU n l 1=(VD l 1,0):=Zm (Zp<|by rw[jrnE_v h0];rfl);have H:(hU n l 1).1=VD l 1:=rn Prod.fst J;have F:(hU n l 1).2=0:=rn Prod.snd J;have E:hU n l 2=(VD l 2,0):=Zm (Zp<|by rw[jrnE_v h0];rfl);have C:(hU n l 2).1=VD l 2:=rn Prod.fst E;have B:(hU n l 2).2=0:=rn Prod.snd E;have hW:=whole_law (f:=1) (.inl rfl) h0;have hW1:(Qr n<|VD l 1).1=l:=rn Prod.fst hW;have Z:(Qr n<|VD l 1).2.1=(R (VD l 1):Int):=rn (λz=>z.2.1) hW;have Y:(Qr n<|VD l 1).2.2=0:=rn (λz=>z.2.2) hW;refine ro 5 O<|kc (zK (Tj (n:=n) I) call13 O)<|jm O<|kc (zK (S8 (l:=l) I) call14 O)<|kc (S.Xo (CD (n:=n) (l:=l) (f:=1) I (An a) I e) d call26 .none O (zc O<|zc O<|zD O) O) ?_;refine rr 8 O ?_;rw[H,F];refine ro 2 O<|kc (zK (Tj (n:=n) I) call13 O)<|jm O<|kc (S.Xo (My (n:=n) (s:=(VD l 1)) I I) d call21 .none O (zc O<|zc O .nil) O) ?_;refine rr 10 O ?_;rw[hW1,Z,Y];refine ro 2 O<|kc (zK (Tj (n:=n) I) call13 O) ?_;refine RK.Ng (((rec_New (n:=n) I I (Ur h0).1).at d)) (λ_=>Z9.ZV _) (λ_ _ _ _ _ hj v=>Z9.mono hj v) call31 O (zc O .nil) O λb=>?_
 refine rr 13 O<|RK.ZS (t:=70) O (λN=>?_) λN=>?_
 ·exact absurd rfl N
 refine rr 4 O<|RK.ZS (t:=74) O (λM=>?_) λM=>?_
 ·exact absurd rfl M
 refine rr 6 O<|RK.ZS (t:=80) O (λL=>?_) λL=>?_
 ·exact absurd rfl L
 refine rr 4 O<|RK.ZS (t:=84) O (λK=>?_) λK=>?_
 ·exact absurd rfl K
 refine kc (S.move (zg O O) O<|zt O)<|kc (S.Km underlying82 (zg O O) O<|zt O)<|rr 3 O<|kc (S.OF Vy (zg O O) O<|zt O)<|kc (S.move (zg O O) O<|zt O)<|kc (S.OF Vy (zg O O) O<|zt O)<|rr 4 O<|kB O (λU=>?_) λU=>?_
 ·exact absurd rfl U
 refine ro 9 O ?_;refine OK.loop (G:=Nat) [3] (λi=>[(1,.sl<|l.map Entry.cs),(2,.str q),(3,.ptr 3 0),(1003,.box n.cs),(7,.str<|VD l 1),(9,.sl<|l.map Entry.cs),(12,.raw<|pV b),(14,bv i),(3000,.res<|Z9<|dskM b<|dskC n<|l.take i)]) (λi=>i<=R l) (λi=>R l - i) 0 (Zr _) ⟨O,O,O,O,O,O,O,O,O,Zo⟩ (λ_=>O) ?_;rintro i hi;refine ro 5 O<|kc (zk Vy O)<|rr 3 O<|kB O (λc98=>?_) λc98=>?_
 ·have A:i<R l:=by omega
  obtain⟨hE1,hE2⟩:=ent_on h0 A;refine ro 5 O ?_;refine kV (.c (zm O)<|.c (zm O)<|.c (zm O)<|.c (zI Vy O I O)<|.c (S.field JD .none O (zt O) O)<|.c (zV YK O O)<|.c (zm O)<|.c (zm O)<|.c (zI Vy O I O)<|.c (S.field fi79_1 .none O (zt O) O)<|.c (zV T6 O O)<|.c (zm O)<|.c (zm O)<|.c (zI Vy O I O)<|.c (S.field Kz .none O (zt O) O)<|.c (zV T6 O O)<|.c (S.VO (((rec_Enter (b:=b) (n:=n) (l:=l.take i) (x:=l[i]) I (by rw[sc];omega) (λy v=>a y<|eν v)<|a _<|Zt A).Tq d<|Z9.ZV _)) (Z9.ZV _) call32 .none O (zc O<|zc O<|zc O<|zc O .nil) O O)<|.c (zN O O) .nil) ?_;refine Ab.D.code<|kB O (λu=>?_) λu=>?_
  ·exact absurd hE1 u
  refine Ro 8 O I ?_;refine Ab.D.lp ⟨i+1,I,I,O,O,O,O,O,O,O,O,(AE<|by rw[hE2]),Zo⟩
 obtain rfl:i=R l:=by omega
 rw[List.take_length];refine ro 5 O<|kc (zK (Tj (n:=n) I) call13 O)<|jm O<|kc (zK (S8 (l:=l) I) call14 O)<|kc (S.Xo (CD (n:=n) (l:=l) (f:=2) I (An a) I e) d call26 .none O (zc O<|zc O<|zD O) O) ?_;refine rr 9 O ?_;rw[C,B];refine ro 4 O<|RK.ZS (t:=129) O (λp=>?_) λp=>?_
 ·exact absurd rfl p
 refine kc (S.move (zg O O) O<|zt O)<|RK.c (S.VO (((rec_DJournal (b:=b) (n:=n) (o:=l) (f:=2) I w).Tq d<|Z9.ZV _)) (Z9.ZV _) call33 (zg O O) O (zc O<|zD O) O O) ?_;refine rr 4 O<|RK.ZS (t:=135) O (λm=>?_) λm=>?_
 ·exact absurd (Zn<|.inr rfl) m
 refine kc (S.move (zg O O) O<|zt O)<|RK.c (S.VO (((rec_DJournal (b:=b) (n:=n) (o:=l) (f:=1) I w).Tq d<|Z9.ZV _)) (Z9.ZV _) call33 (zg O O) O (zc O<|zD O) O O) ?_;refine rr 5 O<|kB O (λr=>?_) λr=>?_
 ·exact absurd (Zn<|.inl rfl) r
 refine ro 6 O ?_;refine RK.c (S.VO (((rec_DAnswer (b:=b) (n:=n) (l:=l) (q:=q) I (An a) I).Tq d<|Z9.ZV _)) (Z9.ZV _) call34 .none O (zc O<|zc O .nil) O O) ?_;refine rr 10 O<|kc (zK (Tj (n:=n) I) call13 O)<|jm O<|kc (zK (S8 (l:=l) I) call14 O)<|jm O<|kc (S.Xo (y8 (n:=n) (l:=l) (q:=q) I (An a) I) d call35 .none O (zc O<|zc O<|zc O .nil) O) ?_;refine rr 10 O<|kc (zK (Tj (n:=n) I) call13 O)<|jm O<|kc (S.Xo (rec_StateOf (n:=n) (l:=l) I<|An a) d call12 .none O (zc O<|zc O .nil) O) ?_;refine rr 11 O<|kc (zK (Tj (n:=n) I) call13 O)<|jm O<|kc (zK (S8 (l:=l) I) call14 O)<|kc (S.Xo (rec_StateOf (n:=n) (l:=l) I<|An a) d call12 .none O (zc O<|zc O .nil) O) ?_;refine rr 9 O ?_;rw[h0];refine ro 5 O<|RK.ZS (t:=174) O (λk=>?_) λk=>?_
 ·refine rr 5 O<|RK.ZS (t:=179) O (λj=>?_) λj=>?_
  ·refine rr 4 O<|RK.ZS (t:=183) O (λh=>?_) λh=>?_
   ·refine rr 4 O<|RK.ZS (t:=187) O (λg=>?_) λg=>?_
    ·refine rr 2 O (kc (S.call (ref10_SameState (s:=Xi n l)) call36 (zg O O) O (zc O<|zc O .nil) O)<|rr 4 O<|kR O O ?_)
     first|rfl|simp
    exact absurd rfl g
   exact absurd rfl h
  exact absurd rfl j
 exact absurd rfl k
