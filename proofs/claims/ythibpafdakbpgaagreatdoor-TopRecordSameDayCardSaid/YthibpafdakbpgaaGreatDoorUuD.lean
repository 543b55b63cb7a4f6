import Derived.Test.YthibpafdakbpgaaGreatDoorUsD
set_option linter.all false
set_option maxHeartbeats 1000000
open List renaming length->R
namespace Go.Proofs.YthibpafdakbpgaaGreatDoor
open Go.Ab Tryz
set_option maxRecDepth 9999
def dskC(n:Net)(l:List Entry):bi:=n.cs++[.sl<|l.map Entry.cs]
def dskM(b:Nat)(cs:bi):HM Unit:=λ_=>some (b,.box cs)
def dskM_new(b:Nat)(cs:bi):HM.set (K:=Unit) (λ_=>none) () (some (b,.box cs))=dskM b cs:=funext λ_=>Zn rfl
def dskM_set(b:Nat)(cs a:bi):(dskM b cs).set () (some (b,.box a))=dskM b a:=funext λ_=>Zn rfl
def entT(n:Net)(l:List Entry)(x:Entry):List Entry:=if rR n l x=0 then l++[x]else l
def clone_Person{l:List Ze}(f:R l<=100000):Ct prog 75 [.sl<|l.map Ze.cs]<|.sl<|l.map Ze.cs:=by
 refine cI func75 O<|kr<|kc (S.assign .none O .Ya)<|rr 6 O<|RK.xE (t:=3) O O λe a=>?_;refine kc (S.mL underlying22 .none O<|zt O)<|kD<|OK.cond O O (λb=>?_) λb=>?_
 ·refine kr<|kc (S.assign .none O .Ya)<|kD<|kR O O ?_;rw[bα.1<|a b];rfl
 refine ro 4 O<|RK.c (zM [] fJ O O O O)<|jm O ?_;refine RK.c (S.V2 fJ .none O (zt O) O N (zt O) (by intro q d;obtain⟨x,_,rfl⟩:=rx.1 d;rfl) (Zx ..) I<|by simp only[maxLen];omega) ?_;refine rr 3 O ?_;refine OK.ret<|Y3.r1 (.tmp O O (.c (.own O O N) O) O) ?_;rfl
variable{n:Net}
def rec_New(e:R n.plan<=1000)(d:R n.ZU<=1000)(f:(U4 n).2=0):C0 prog 31 [.agg n.cs] (λb:Nat=>.Yy [.raw<|pV b,bv 0]) (λb:Nat=>Z9<|dskM b<|dskC n []):=by
 refine C0.intro (rs:=[.tmp 2,.tmp 3]) func31 rfl ntmps31 results31 rfl rfl rfl λw h g=>?_
 refine OK.OC Unit<|ro 3 O<|kc (S.assign .none O .Re)<|rr 7 O<|kc (S.Xo (rec_CheckNet (n:=n) e) g call74 .none O (zc O .nil) O)<|rr 13 O<|kB O (λa=>?_) λa=>?_
 ·exact absurd f a
 refine ro 6 O<|kc (zK (clone_Person (l:=n.ZU) I) call75 O) ?_;refine rr 7 O<|kc (zU bu166 O O)<|RK.c (S.j8 (k:=20) O .none O (zt O) O)<|rr 4 O<|OK.hboxC 2 () (qj:=dskC n []) O O O ⟨.inl ⟨O,O⟩,.inl ⟨O,O⟩,.inl ⟨O,O⟩,.inl ⟨O,O⟩,.inl ⟨O,O⟩,.inr ⟨O,O⟩,Zo⟩ O λb=>?_;rw[dskM_new];refine OK.ret ⟨b,Y3.r2 (zo O O) (zo O O) ?_,O⟩;rfl
variable{x:Entry}{l:List Entry}
def rec_Enter{b:Nat}(f:R n.plan<=1000)(vz:R l<=1000)(g:∀x∈l,R x.text<=100000)(e:R x.text<=100000):U_ prog 32 [] [.raw<|pV b,bv x.at_,.str x.OR,.str x.text] [(3000,.res<|Z9<|dskM b<|dskC n l)] [(3000,.res<|Z9<|dskM b<|dskC n<|entT n l x)]<|bv<|rR n l x:=by
 refine cH func32 O λh=>?_
 refine ro 9 O<|kc (S.Km underlying82 .none O<|zt O)<|rr 6 O ?_;refine kV (.c (zm O)<|.c (zn O O)<|.c (zr fi166_0 O)<|.c (zJ (us:=n.cs) Pn O<|Z9.KL (k:=()) (xs:=dskC n l) O ⟨.same _,.same _,.same _,.same _,.same _,Zo⟩ O)<|.c (zm O)<|.c (zn O O)<|.c (zr fi166_1 O)<|.c (zH (u:=.sl<|l.map Entry.cs) ti27 O<|Z9.Xh (k:=()) (xs:=dskC n l) O O<|.same _)<|.c (zm O)<|.c (zm O)<|.c (zm O)<|.c (zU JA O O)<|.c (S.Xo (f_ (n:=n) (l:=l) (x:=x) f vz g e) h call29 .none O (zc O<|zc O<|zc O .nil) O)<|.c (zm O)<|.c (zX O O O)<|.c (zX O O O)<|.c (za O)<|.c (za O) .nil) ?_;refine rd 8 O<|kB O (λa=>?_) λa=>?_
 ·have i:=appT_2 (x:=x) a;have d:entT n l x=l++[x]:=Zn a;rw[i];refine ro 5 O<|kc (S.Yf (xs':=(dskC n<|l++[x])) (()) ti27 .none (zt O) (zt O) O O O O O O O)<|rr 3 O ?_;rw[dskM_set];refine ro 5 O ?_;rw[d];refine OK.ret ⟨Y3.r1 (zo O O) ?_,O,Zo⟩;rfl
 have d:entT n l x=l:=Zm a;refine ro 8 O ?_;rw[d];refine OK.ret ⟨Y3.r1 (zo O O) ?_,O,Zo⟩;rfl
def rec_DAnswer{b:Nat}{q:ba}(d:R n.plan<=1000)(f:N6 l)(a:R q<=100000):U_ prog 34 [] [.raw<|pV b,.str q] [(3000,.res<|Z9<|dskM b<|dskC n l)] [(3000,.res<|Z9<|dskM b<|dskC n l)]<|.Yy [.str (lz n l q).1,bv (lz n l q).2]:=by
 refine cH func34 O λe=>?_
 refine ro 10 O<|kc (S.Km underlying82 .none O<|zt O)<|rr 6 O ?_;refine kV (.c (zm O)<|.c (zn O O)<|.c (zr fi166_0 O)<|.c (zJ (us:=n.cs) Pn O<|Z9.KL (k:=()) (xs:=dskC n l) O ⟨.same _,.same _,.same _,.same _,.same _,Zo⟩ O)<|.c (zm O)<|.c (zn O O)<|.c (zr fi166_1 O)<|.c (zH (u:=.sl<|l.map Entry.cs) ti27 O<|Z9.Xh (k:=()) (xs:=dskC n l) O O<|.same _)<|.c (zm O)<|.c (S.Xo (y8 (n:=n) (l:=l) (q:=q) d f a) e call35 .none O (zc O<|zc O<|zc O .nil) O)<|.c (zX O O O)<|.c (zX O O O)<|.c (za O)<|.c (za O) .nil)<|Ab.D.code<|OK.ret ⟨Y3.r2 (zo O O) (zo O O) ?_,O,Zo⟩;rfl
def sh_str{x:X}(h:Shape .str [x]):∃l:ba,x=.str l:=by
 obtain⟨l,h⟩:=h;cases h;exact⟨l,rfl⟩
def fQ(h:(Z2 n l).2.2=0):(Z2 n l).1.entries=(R l:Int):=by
 obtain⟨_,_,e⟩:=Ur h;rw[e]at h⊢;rw[sI _ _ _ h];show 0+(R l:Int)=_;omega
def ent_on(h:(Z2 n l).2.2=0){i:Nat}(hi:i<R l):rR n (l.take i) l[i]=0/\entT n (l.take i) l[i]=l.take (i+1):=by
 have e:rR n (l.take i) l[i]=0:=(appE_2<|UP h i).trans (Aq h hi).1;refine⟨e,?_⟩;unfold entT;rw[Zn e,mv hi]
variable{H:Z6}
def Al{n:Int}{f:Z6->Nat->HE}(a:∀i,(f H i).2≠0->(f H i).1=H)(h:(YJ H n f).2≠0):(YJ H n f).1=H:=by
 unfold YJ at h⊢;cases e:H.U1 n with
 |none=>rfl
 |some i=>
  rw[e]at h;dsimp only at h⊢;split
  ·rename_i h0;rw[Zn h0]at h;exact absurd rfl h
  rename_i h0;exact a i h0
def eff_err(k:Nat)(L:Sv)(h:(WQ k H L).2≠0):(WQ k H L).1=H:=by
 unfold WQ at h⊢;split
 ·rfl
 ·unfold W_ at h⊢;dsimp only at h⊢
  repeat' split
  all_goals first|rfl|(exfalso;simp_all;done)
 ·unfold Yl at h⊢;cases e:H.Tk with
  |none=>rfl
  |some i=>
   rw[e]at h;dsimp only at h⊢
   repeat' split
   all_goals first|rfl|(exfalso;simp_all;done)
 ·unfold Sz at h⊢;cases e:H.Tk with
  |none=>rfl
  |some i=>rw[e]at h;exact absurd rfl h
 ·exact Al (λi hi=>by unfold Wi at hi⊢;split<;>simp_all) h
 ·exact Al (λi hi=>by unfold Tu at hi⊢;split<;>simp_all) h
 ·unfold Tw at h⊢;dsimp only at h⊢;split<;>simp_all
 ·unfold XZ at h⊢
  repeat' split
  all_goals first|rfl|(exfalso;simp_all;done)
 ·exact Al (λi hi=>by unfold WU at hi⊢;split<;>simp_all) h
 ·refine Al (λi hi=>?_) h;unfold Xz at hi⊢;dsimp only at hi⊢
  repeat' split
  all_goals first|rfl|(exfalso;simp_all;done)
 ·unfold XX at h⊢;dsimp only at h⊢
  repeat' split
  all_goals first|rfl|(exfalso;simp_all;done)
 ·refine Al (λi hi=>?_) h;unfold Xe at hi⊢;dsimp only at hi⊢;split<;>simp_all
 unfold Wo at h⊢;split<;>simp_all
def gS(h:(Za H x).2≠0):(Za H x).1=H:=by
 unfold Za at h⊢;split
 ·rfl
 rename_i c;rw[Zm c]at h;split
 ·rename_i i k e d;simp only[e,d]at h;split
  ·rfl
  rename_i b;rw[Zm b]at h;dsimp only at h⊢;split
  ·rename_i a;exact eff_err _ _ a
  rename_i a;rw[Zm a]at h;exact absurd rfl h
 rfl
def replay_on(h:(Z2 n l).2.2=0)(b:(Za (Z2 n l).1 x).2=0):(Z2 n<|l++[x]).2.2=0/\(Z2 n<|l++[x]).1=(Za (Z2 n l).1 x).1:=by
 have a:(Z2 n<|l++[x]).2.2=0:=(aL h).trans b;obtain⟨_,_,c⟩:=Ur a;obtain⟨_,_,d⟩:=Ur h;refine⟨a,?_⟩;rw[c]at a⊢;rw[d];exact(z8 _ _ _ _ a).2.2
def sH(h:(Z2 n l).2.2=0):(Z2 n l).1.XR=n/\(Z2 n l).1.plan=(ZO n.plan).1:=by
 have vo:∀(l:List Entry)(H:Z6)(i:Nat),(runT H i l).1.XR=H.XR/\(runT H i l).1.plan=H.plan:=by
  intro l
  induction l with
  |nil=>intro H i;exact⟨rfl,rfl⟩
  |cons x l a=>
   intro H i;have e:=UY H x;rw[runT];split
   ·exact⟨e.2,e.1⟩
   exact⟨(a _ _).1.trans e.2,(a _ _).2.trans e.1⟩
 obtain⟨_,_,e⟩:=Ur h;rw[e];exact vo _ _ _
