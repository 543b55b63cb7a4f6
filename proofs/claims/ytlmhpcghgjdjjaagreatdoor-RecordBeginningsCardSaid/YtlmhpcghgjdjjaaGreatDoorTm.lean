import Derived.Test.YtlmhpcghgjdjjaaGreatDoorTf
set_option linter.all false
set_option maxHeartbeats 4000000
open List renaming length->R
namespace Go.Proofs.Z_
open Go.Ab Tryz
set_option maxRecDepth 9999
section
variable{E:Env}{U:bc}{s:St}{code:Code}{Q:bo}{A:HA}{m:Int}{i:Nat}{v:ZN}
theorem OK.b7(q:Nat×Nat)(n:Int)(a:A.Ok m)(o:(R v.es:Int)+1<=m+3)(d:A.parts[i]?=some v)(l:Ab.look s 3000=some (.res<|Z9<|(A.mem.set (.e i)<|some (q.1,.row 1 q.2<|Ye v.es++[[bv n]])).set (.p i)<|some (v.b,.box ({v with eh:=some q,es:=v.es++[n]}:ZN).cs)))
  (j:n=A.entries) (h:∀g:HA,A.GC g i {v with eh:=some q,es:=v.es++[n]} (A.plain.WT i) m->OK E code Q U ((3000,.res<|Z9 g.mem)::s)):OK E code Q U s:=by
 have c:=mr d;refine OK.Eo (w:={v with eh:=some q,es:=v.es++[n]}) a d l O (HM.YW ..) ?_ ?_ (λk t _ r=>by simp_all[HM.Z0]) λf=>h _ ⟨?_,O,f,wi ..,N0 d,?_⟩
 ·simp_all[HM.Z0,HA.n8]
 ·simp[HM.Z0,HM.YW]
 ·refine HA.JZ a d (Int.le_refl _) a.m0.2 (a.fh v c) Z (a.lf v c) ?_ (a.pl v c)<|a.nl v c;simp_all
 subst j;rw[HA.Q0 d,Z6.WT,WH<|HA.Yi d];rfl
end
def mkG(H:Z6)(i:Nat)(q:Part×bd):Bool:=decide (q.1.Yr=(H.p i).Yr)&&decide (q.1.YD=(H.p i).YD)&&Yu q.1
def iK(H:Z6)(i:Nat)(q:Part×bd):Part×bd:=if mkG H i q=true then({q.1 with marked:=true},q.2++[H.entries])else q
def Z6.Xg(H:Z6)(i k:Nat):Z6:={H with parts:=(H.parts.take k).map (iK H i)++H.parts.drop k}
def nX(H:Z6)(i:Nat):H.Xg i 0=H:=by rfl
variable{k:Nat}
def yQ(H:Z6)(i:Nat)(h:k=R H.parts):H.Xg i k=H.Yz i:=by
 subst h;unfold Z6.Xg Z6.Yz;rw[List.take_length,da,i8];rfl
variable{i:Nat}{H:Z6}
def O6{j:Nat}(a:k<=R H.parts)(h:k<=j):(H.Xg i k).parts[j]?=H.parts[j]?:=by
 simp_all[Z6.Xg,aκ]
theorem bF(H:Z6)(i:Nat)(q:Part×bd):(iK H i q).1.Yr=q.1.Yr/\(iK H i q).1.YD=q.1.YD:=by unfold iK;grind
def nZ(a:k<=R H.parts)(j:Nat):((H.Xg i k).p j).Yr=(H.p j).Yr/\((H.Xg i k).p j).YD=(H.p j).YD:=by
 unfold Z6.p;rcases w7 j k with h|h
 ·have e:(H.Xg i k).parts[j]?=(H.parts[j]?).map (iK H i):=by
   unfold Z6.Xg;dsimp only;rw[m6<|by simp_all,dp,H0,Zn h]
  rw[e];cases H.parts[j]? with
  |none=>simp
  |some q=>exact bF H i q
 rw[O6 a h];simp
theorem KP{q:Part×bd}(h:H.parts[k]?=some q):H.Xg i (k+1)={H.Xg i k with parts:=(H.Xg i k).parts.set k (iK H i q)}:=by
 have c:k<R H.parts:=(sT.1 h).1;have a:H.parts[k]=q:=(sT.1 h).2;have b:R ((H.parts.take k).map<|iK H i)=k:=by grind
 simp_all[Z6.Xg,mv,np]
def nY{p:Part}{es:bd}(h:H.parts[k]?=some (p,es))(b:mkG H i (p,es)=true)(c:k<=R H.parts):((H.Xg i k).Zh k λ_=>{p with marked:=true}).WT k=H.Xg i (k+1):=by
 have a:(H.Xg i k).parts[k]?=some (p,es):=by simp_all[O6]
 rw[KP h];unfold Z6.Zh Z6.WT;dsimp only;rw[WH a,WH<|N0 a,eυ];congr 1;congr 1;unfold iK;rw[Zn b];rfl
def Bv{q:Part×bd}(h:H.parts[k]?=some q)(b:mkG H i q=false)(a:k<=R H.parts):H.Xg i k=H.Xg i (k+1):=by
 simp_all[O6,iK,KP,YW]
variable{rest:ba}
def jH(h:(H.p i).place≠1):Xz rest H i=(H,20):=Zn h
def cU(h:¬(H.p i).place≠1)(a:(Y9 rest).2≠0):Xz rest H i=(H,(Y9 rest).2):=by unfold Xz;simp_all
def cR(h:¬(H.p i).place≠1)(b:¬(Y9 rest).2≠0)(a:(Y6 (Y9 rest).1 H.XR.limit).2≠0):Xz rest H i=(H,(Y6 (Y9 rest).1 H.XR.limit).2):=by simp_all[Xz]
def jI(h:¬(H.p i).place≠1)(c:¬(Y9 rest).2≠0)(b:¬(Y6 (Y9 rest).1 H.XR.limit).2≠0)(a:H.outside (Y6 (Y9 rest).1 H.XR.limit).1=false):Xz rest H i=(H.Zh i λp=>{p with place:=4,depth:=(Y6 (Y9 rest).1 H.XR.limit).1},0):=by
 simp_all[Xz]
def qP(h:¬(H.p i).place≠1)(c:¬(Y9 rest).2≠0)(b:¬(Y6 (Y9 rest).1 H.XR.limit).2≠0)(a:H.outside (Y6 (Y9 rest).1 H.XR.limit).1=true):Xz rest H i=((H.Zh i λp=>{p with place:=4,depth:=(Y6 (Y9 rest).1 H.XR.limit).1}).Yz i,0):=by
 simp_all[Xz]
def uY(A:HA)(rest:ba)(i:Nat):(Xz rest A.plain i).1.entries=A.entries:=by
 unfold Xz;dsimp only
 repeat' split
 all_goals rfl
def xM{a b:Part}:Nq [.s a.Yr,.i a.YD] [.s b.Yr,.i b.YD]=(decide (a.Yr=b.Yr)&&decide (a.YD=b.YD)):=by simp[Nq,Pl.eq]
def IG{f:GB}{n:Int}(c:KE f)(d:0<=n/\n<=10000):Ct prog 214 [.agg f.cs,bv n]<|.bool<|decide<|f.num<n * f.den:=by
 refine cI func214 O λ{_ _}=>?_
 have g:=c.den;have e:=O7 (a:=n) (b:=f.den) (A:=10000) (B:=2000) I I C;refine ro 13 O ?_;refine kc (S.mul .none O (zt O) (zt O) (mn _ I)<|mn _ I) ?_;refine rr 4 O<|kR O O ?_;rfl
def zj{f:GB}{n:Int}(c:KE f)(d:0<=n/\n<=10000):Ct prog 215 [.agg f.cs,bv n]<|.bool<|decide<|f.num>n * f.den:=by
 refine cI func215 O λ{_ _}=>?_
 have g:=c.den;have e:=O7 (a:=n) (b:=f.den) (A:=10000) (B:=2000) I I C;refine ro 13 O ?_;refine kc (S.mul .none O (zt O) (zt O) (mn _ I)<|mn _ I) ?_;refine rr 4 O<|kR O O ?_;rfl
variable{A:HA}{m:Int}
def Ew(P:A.Ok m)(hm:m+2<=1000)(hce:Ka A.XR){n:Int}(hrl:R rest<=600){v:ZN}(hv:A.parts[i]?=some v):U_ prog 211 [] [.raw<|pV v.b,.Yt (Words.mk [n] [rest]).cs,.Yt [.raw<|pV A.b]] [(3000,.res<|Z9 A.mem)] [(3000,.res<|JP A (Xz rest A.plain i).1<|m+1)]<|bv (Xz rest A.plain i).2:=by
 refine cH func211 O λF=>?_
 have hp:=HA.RQ hv;have hm0:=P.m0;have hcb:=vW (Y9 rest).1 A.XR.limit;refine ro 12 O ?_;refine kc (zH YK O<|Z9.Xh (k:=.p i) (HA.XW hv) O<|.same _) ?_;refine rr 3 O<|kB O (λc15=>?_) λc15=>?_
 ·have F:=jH (rest:=rest) (H:=A.plain) (i:=i) (by rw[hp];exact c15);refine ro 5 O ?_;refine OK.YS (J':=JP A (Xz rest A.plain i).1<|m+1) O (JP.ZV _ _ _) (λh Y w B=>HA.jp P I I (by rw[F]) B) ?_;refine OK.ret ⟨Y3.r1 (zo O O) ?_,O,Zo⟩;rw[F];try rfl
 have hpl:¬(A.plain.p i).place≠1:=by rw[hp];exact c15
 refine ro 6 O ?_;refine kc (S.Zi (n:=0) X9 .none O (zt O) (.Zg O) O (by exact aθ _) O)<|kc (zV T6 O O)<|kc (S.Xo (ML (s:=rest) I) F call212 .none O (zc O .nil) O) ?_;refine rr 15 O<|kB O (λc25=>?_) λc25=>?_
 ·have F:=cU hpl c25;refine ro 6 O ?_;refine OK.YS (J':=JP A (Xz rest A.plain i).1<|m+1) O (JP.ZV _ _ _) (λh Y w B=>HA.jp P I I (by rw[F]) B) ?_;refine OK.ret ⟨Y3.r1 (zo O O) ?_,O,Zo⟩;rw[F];try rfl
 refine ro 3 O ?_;refine kV (.c (zL K_ O O O O)<|.c (zV Qz O O)<|.c (zn O O)<|.c (zr TY O)<|.c (zr O2 O)<|.c (zr yx O)<|.c (zH YK O<|Z9.Xh (k:=.Y1) O O<|.same _)<|.c (zK (yI (l:=(Y9 rest).1) (limit:=A.XR.limit)) call213 O)<|.c (zm O)<|.c (zX O O O)<|.c (zX O O O)<|.c (zA (c:=7) ze39 O)<|.c (zS L4 O O O O O O)<|.c (za O) .nil) ?_;refine rd 8 O<|kB O (λc39=>?_) λc39=>?_
 ·have F:=cR hpl c25 (show(Y6 (Y9 rest).1 A.plain.XR.limit).2≠0 from c39);refine ro 6 O ?_;refine OK.YS (J':=JP A (Xz rest A.plain i).1<|m+1) O (JP.ZV _ _ _) (λh Y w B=>HA.jp P I I (by rw[F]) B) ?_;refine OK.ret ⟨Y3.r1 (zo O O) ?_,O,Zo⟩;rw[F];try rfl
 have h39:¬(Y6 (Y9 rest).1 A.plain.XR.limit).2≠0:=c39;refine ro 3 O ?_;refine kV (.c (zm O)<|.c (zm O)<|.c (zL L4 O O O O)<|.c (zn O O)<|.c (zr Xu O)<|.c (zr RT O)<|.c (S.Yf (xs':=({v with p:={v.p with place:=4}}:ZN).cs) (.p i) YK .none (zt O) (.Zg O) O (HA.XW hv) O O O O O)<|.c (zn O O)<|.c (zr Xu O)<|.c (zr yA O)<|.c (S.Yf (xs':=({v with p:={v.p with place:=4,depth:=(Y6 (Y9 rest).1 A.XR.limit).1}}:ZN).cs) (.p i) L4 .none (zt O) (zt O) O (HM.YW _ _ _) O O O O O) .nil)<|Ab.D.code<|kO ?_;rw[HM.set_set];refine OK.KV {v.p with place:=4,depth:=(Y6 (Y9 rest).1 A.XR.limit).1} P hv O O (by dsimp only;decide) λd hL=>?_
 have z:=hL.ok;have hlp1:=z.lp;have hm01:=z.m0;have T:d.XR=A.XR:=rn Z6.XR hL.plain;have hc1:Ka d.XR:=by rw[T];exact hce
 have hpl1:d.plain=A.plain.Zh i λp=>{p with place:=4,depth:=(Y6 (Y9 rest).1 A.XR.limit).1}:=hL.plain.trans<|Z6.T4 (HA.Yi hv) λp=>{p with place:=4,depth:=(Y6 (Y9 rest).1 A.XR.limit).1}
 rw[←hL.b];refine OK.join (G:=Bool) [] (λbb=>[(0,.raw<|pV v.b),(2,.Yt [.raw<|pV d.b]),(73,.bool bb),(3000,.res<|Z9 d.mem)]) (λbb=>bb=(!(decide<|(Y6 (Y9 rest).1 A.XR.limit).1.lo.num<d.XR.lo * (Y6 (Y9 rest).1 A.XR.limit).1.lo.den)&&!(decide<|(Y6 (Y9 rest).1 A.XR.limit).1.hi.num>d.XR.hi * (Y6 (Y9 rest).1 A.XR.limit).1.hi.den))) (λ_=>O) ?_ ?_
 ·by_cases a:(!(decide<|(Y6 (Y9 rest).1 A.XR.limit).1.lo.num<d.XR.lo * (Y6 (Y9 rest).1 A.XR.limit).1.lo.den))=true
  ·refine kV (.c (zf yy O)<|.c (zL Q3 O O O O)<|.c (zV Qz O O)<|.c (zn O O)<|.c (zr TY O)<|.c (zr O2 O)<|.c (zr SJ O)<|.c (zr UT O)<|.c (zH YK O<|Z9.Xh (k:=.Y1) O O<|.same _)<|.c (zK (IG (f:=(Y6 (Y9 rest).1 A.XR.limit).1.lo) (n:=d.XR.lo) hcb.1 hc1.1) call214 O)<|.c (S.Xb .none O<|zt O)<|.c (zm O)<|.c (S.VN mP (.yes O O O<|by simpa using a) O<|zt O)<|.c (S.Hl Q3 (.yes O O O<|by simpa using a) O (zt O) O O O O)<|.c (S.Q_ Qz (.yes O O O<|by simpa using a) O (zt O) O)<|.c (S.qG (.yes O O O<|by simpa using a) O (zt O) O)<|.c (S.Ub TY (.yes O O O<|by simpa using a) O<|zt O)<|.c (S.Ub O2 (.yes O O O<|by simpa using a) O<|zt O)<|.c (S.Ub SJ (.yes O O O<|by simpa using a) O<|zt O)<|.c (S.Ub TI (.yes O O O<|by simpa using a) O<|zt O)<|.c (S.Uc YK (.yes O O O<|by simpa using a) O (zt O) O<|Z9.Xh (k:=.Y1) O O<|.same _)<|.c (S.call (zj (f:=(Y6 (Y9 rest).1 A.XR.limit).1.hi) (n:=d.XR.hi) hcb.2 hc1.2) call215 (.yes O O O<|by simpa using a) O (zc O<|zc O .nil) O)<|.c (S.Xb (.yes O O O<|by simpa using a) O<|zt O)<|.c (S.Tc .none O (zt O) (zt O)<|by simpa using a) .nil) ?_;refine Ab.D.lp ⟨(decide<|¬(Y6 (Y9 rest).1 A.XR.limit).1.hi.num>d.XR.hi * (Y6 (Y9 rest).1 A.XR.limit).1.hi.den),(by first|(rw[a,tn];exact decide_not)|(rw[bι.2 a];rfl)),O,O,O,O,Zo⟩
  refine kV (.c (zf yy O)<|.c (zL Q3 O O O O)<|.c (zV Qz O O)<|.c (zn O O)<|.c (zr TY O)<|.c (zr O2 O)<|.c (zr SJ O)<|.c (zr UT O)<|.c (zH YK O<|Z9.Xh (k:=.Y1) O O<|.same _)<|.c (zK (IG (f:=(Y6 (Y9 rest).1 A.XR.limit).1.lo) (n:=d.XR.lo) hcb.1 hc1.1) call214 O)<|.c (S.Xb .none O<|zt O)<|.c (zm O)<|.c (zG O<|by simpa using a)<|.c (zG O<|by simpa using a)<|.c (zG O<|by simpa using a)<|.c (zG O<|by simpa using a)<|.c (zG O<|by simpa using a)<|.c (zG O<|by simpa using a)<|.c (zG O<|by simpa using a)<|.c (zG O<|by simpa using a)<|.c (zG O<|by simpa using a)<|.c (zG O<|by simpa using a)<|.c (zG O<|by simpa using a)<|.c (S.Ug .none O (zt O) .Wx<|by simpa using a) .nil) ?_;refine Ab.D.lp ⟨false,(by first|(rw[a,tn];exact decide_not)|(rw[bι.2 a];rfl)),O,O,O,O,Zo⟩
 rintro bb hbb;refine OK.cond O O (λc73=>?_) λc73=>?_
 ·have V:=hbb;rw[T]at V;have hO:A.plain.outside (Y6 (Y9 rest).1 A.XR.limit).1=false:=by show(!((!(decide<|(Y6 (Y9 rest).1 A.XR.limit).1.lo.num<A.XR.lo * (Y6 (Y9 rest).1 A.XR.limit).1.lo.den)&&!(decide<|(Y6 (Y9 rest).1 A.XR.limit).1.hi.num>A.XR.hi * (Y6 (Y9 rest).1 A.XR.limit).1.hi.den))))=false;rw[←V,c73];rfl
  have F:=jI hpl c25 h39 hO;refine ro 5 O ?_;refine OK.YS (J':=JP A (Xz rest A.plain i).1<|m+1) O (JP.ZV _ _ _) (λh Y w B=>hL.jp I I (hL.plain.symm.trans<|hpl1.trans<|by rw[F];rfl) B) ?_;refine OK.ret ⟨Y3.r1 (zo O O) ?_,O,Zo⟩;rw[F];try rfl
 have V:=hbb;rw[T]at V;have hO:A.plain.outside (Y6 (Y9 rest).1 A.XR.limit).1=true:=by show(!((!(decide<|(Y6 (Y9 rest).1 A.XR.limit).1.lo.num<A.XR.lo * (Y6 (Y9 rest).1 A.XR.limit).1.lo.den)&&!(decide<|(Y6 (Y9 rest).1 A.XR.limit).1.hi.num>A.XR.hi * (Y6 (Y9 rest).1 A.XR.limit).1.hi.den))))=true;rw[←V,c73];rfl
 have F:=qP hpl c25 h39 hO;refine ro 8 O<|kc (zH (u:=.sl<|d.parts.map Su) SC O<|Z9.Xh (k:=.Y1) O O<|.sl z.ps)<|kc (zk Uh O)<|rr 4 O ?_;refine OK.YS (J':=JP d (d.plain.Xg i 0)<|m+1) O (JP.ZV _ _ _) (λh Y w B=>HA.jp z I I (nX _ _) B) ?_;refine OK.loop (G:=Nat) [] (λk=>[(0,.raw<|pV v.b),(2,.Yt [.raw<|pV d.b]),(77,.sl<|d.parts.map Su),(78,bv<|R d.parts),(79,bv k),(3000,.res<|JP d (d.plain.Xg i k)<|m+1)]) (λk=>k<=R d.parts) (λk=>R d.parts - k) 0 (Zr _) ⟨O,O,O,O,O,O,Zo⟩ (λ_=>O) ?_;rintro k hk;refine ro 6 O<|kB O (λc80=>?_) λc80=>?_
 ·have hil:k<R d.parts:=by omega
  refine OK.fc O λA2 y hb2 t g r=>?_
  obtain⟨w,hw⟩:=Yh (l:=A2.parts) (i:=k) (by rw[g];exact hil);obtain⟨w0,hw0⟩:=Yh (l:=A2.parts) (i:=i) (by rw[g,hL.len];exact RA hv);have hwb:d.parts[k].b=w.b:=by rw[←HA.BO hil,←t,HA.CS hw]
  have hw0b:w0.b=v.b:=by rw[←HA.CS hw0,t,hL.pb,HA.CS hv]
  have W:k<=R d.plain.parts:=by show k<=R (d.parts.map _);rw[Zx];exact hk
  have hpk:d.plain.parts[k]?=some (w.p,w.es):=by rw[←O6 (i:=i) W (Zq _),←r];exact HA.Yi hw
  have M:w0.p.Yr=(d.plain.p i).Yr/\w0.p.YD=(d.plain.p i).YD:=by have h:=nZ (i:=i) W i;rw[←r,HA.RQ hw0]at h;exact h
  have hwe:(R w.es:Int)<=m+3:=by
   obtain⟨w1,hw1⟩:=Yh hil;have h1:=HA.Yi hw1;rw[hpk]at h1;have h2:w.es=w1.es:=rn Prod.snd<|aγ h1;rw[h2];exact z.le w1<|mr hw1
  have hm02:=y.m0;rw[←hw0b,←hb2];refine ro 6 O<|kc (zI Uh O I O) ?_;refine rr 5 O ?_;rw[hwb];by_cases j:(decide (w.p.Yr=w0.p.Yr)&&decide (w.p.YD=w0.p.YD))=true
  ·refine kV (.c (zm O)<|.c (zn O O)<|.c (zr Xu O)<|.c (zr TK O)<|.c (zJ (us:=[.str w.p.Yr,bv w.p.YD]) Ni O<|Z9.KL (k:=.p k) (xs:=w.cs) (HA.XW hw) ⟨.same _,.same _,Zo⟩ O)<|.c (zm O)<|.c (zn O O)<|.c (zr Xu O)<|.c (zr TK O)<|.c (zJ (us:=[.str w0.p.Yr,bv w0.p.YD]) Ni O<|Z9.KL (k:=.p i) (xs:=w0.cs) (HA.XW hw0) ⟨.same _,.same _,Zo⟩ O)<|.c (S.rY (b:=(decide (w.p.Yr=w0.p.Yr)&&decide (w.p.YD=w0.p.YD))) [.s [],.i 0] [.s w.p.Yr,.i w.p.YD] [.s w0.p.Yr,.i w0.p.YD] ET .none O (zt O) (zt O) O O O O xM)<|.c (zm O)<|.c (S.move (.yes O O O<|by simpa using j) O<|zt O)<|.c (S.Wc ((λJ hS hJ=>(NS hw hS hJ).Tq hS)) call129 (.yes O O O<|by simpa using j) O (zc O .nil) O O)<|.c (S.Tc .none O (zt O) (zt O)<|by simpa using j) .nil) ?_;refine Ab.D.code<|OK.cond O O (λc97=>?_) λc97=>?_
   ·have hG:mkG d.plain i (w.p,w.es)=true:=by show(decide (w.p.Yr=(d.plain.p i).Yr)&&decide (w.p.YD=(d.plain.p i).YD)&&Yu w.p)=true;rw[←M.1,←M.2,j,c97];rfl
    refine ro 6 O<|kc (S.Yf (xs':=({w with p:={w.p with marked:=true}}:ZN).cs) (.p k) CI .none (zt O) .Wx O (HA.XW hw) O O O O O)<|kD<|OK.KV {w.p with marked:=true} y hw O O (y.pl w<|mr hw) λA3 K=>?_;have o:=K.ok;obtain⟨N,L,hwb3,hwp3,hwe3⟩:∃N:ZN,A3.parts[k]?=some N/\N.b=w.b/\N.p={w.p with marked:=true}/\N.es=w.es:=⟨_,K.at_,rfl,rfl,rfl⟩;rw[←hwb3,←K.b];refine OK.Sd follows (ι:=(Nat×Nat)) (0,0) 10 O (S.MH (s:=[(106,.raw<|N.eh.v N.es.length),(111,.own 111 1),(2111,.arr 1 [[bv A3.entries]]),(3000,.res<|Z9 A3.mem)]) (m:=1) (rows2:=[[bv A3.entries]]) (.e k) Xr O (zt O) (o.es? L) (zt O) O O O C (by simp only[Ye,Zx];have:=o.le _<|mr L;have:=o.m0;omega)<|by simp only[Ye,Zx,maxLen];have:=o.le _<|mr L;have:=o.m0;omega).st (λq=>(.cs (zm O) (.cs (zm O) (.cs (zn O O) (.cs (zr Uz O) (.cs (zH Vr O<|Z9.Xh (k:=.p k) (HA.XW L) O<|.same _) (.cs (zV Qz O O) (.cs (zn O O) (.cs (zr UA O) (.cs (zH YK O<|Z9.Xh (k:=.Y1) O O<|.same _) (.cs (zM [[_]] Xr O O O O)
     (.x ⟨O,O,O,O,Zo⟩<|.cn (zn O O)<|.cn (zr Uz O)<|.cn (S.Yf (xs:=N.cs) (xs':=({N with eh:=some q,es:=N.es++[A3.entries]}:ZN).cs) (.p k) Vr .none (zt O) (zt O) O ((HM.Z0 _ _ Z).trans<|HA.XW L) O O O O<|PN N q _) .nil)))))))))))) λq=>?_
    refine Ab.D.blk<|Ab.D.code ?_;refine OK.b7 q _ o (by rw[hwe3];omega) L O O λA4 X=>?_
    refine OK.YS (J':=JP d (d.plain.Xg i<|k+1)<|m+1) O (JP.ZV _ _ _) (λh Y w B=>⟨A4,⟨X.ok,X.b.trans<|K.b.trans hb2,X.pb.trans<|K.pb.trans t,X.len.trans<|K.len.trans g,by rw[X.plain,K.plain,r];exact nY hpk hG W⟩,B⟩) ?_;refine Ro 4 O I<|Ab.D.lp ⟨k+1,I,I,O,O,O,O,O,O,Zo⟩
   refine ro 3 O ?_;have hG:mkG d.plain i (w.p,w.es)=false:=by show(decide (w.p.Yr=(d.plain.p i).Yr)&&decide (w.p.YD=(d.plain.p i).YD)&&Yu w.p)=false;rw[←M.1,←M.2];first|(rw[bι.2 j];rfl)|(rw[j,c97];rfl)
   refine OK.YS (J':=JP d (d.plain.Xg i<|k+1)<|m+1) O (JP.ZV _ _ _) (λh Y w B=>⟨A2,⟨y,hb2,t,g,by rw[r];exact Bv hpk hG W⟩,B⟩) ?_;refine Ro 4 O I<|Ab.D.lp ⟨k+1,I,I,O,O,O,O,O,O,Zo⟩
  refine kV (.c (zm O)<|.c (zn O O)<|.c (zr Xu O)<|.c (zr TK O)<|.c (zJ (us:=[.str w.p.Yr,bv w.p.YD]) Ni O<|Z9.KL (k:=.p k) (xs:=w.cs) (HA.XW hw) ⟨.same _,.same _,Zo⟩ O)<|.c (zm O)<|.c (zn O O)<|.c (zr Xu O)<|.c (zr TK O)<|.c (zJ (us:=[.str w0.p.Yr,bv w0.p.YD]) Ni O<|Z9.KL (k:=.p i) (xs:=w0.cs) (HA.XW hw0) ⟨.same _,.same _,Zo⟩ O)<|.c (S.rY (b:=(decide (w.p.Yr=w0.p.Yr)&&decide (w.p.YD=w0.p.YD))) [.s [],.i 0] [.s w.p.Yr,.i w.p.YD] [.s w0.p.Yr,.i w0.p.YD] ET .none O (zt O) (zt O) O O O O xM)<|.c (zm O)<|.c (zG O<|by simpa using j)<|.c (zG O<|by simpa using j)<|.c (S.Ug .none O (zt O) .Wx<|by simpa using j) .nil) ?_;refine rd 5 O ?_;have hG:mkG d.plain i (w.p,w.es)=false:=by show(decide (w.p.Yr=(d.plain.p i).Yr)&&decide (w.p.YD=(d.plain.p i).YD)&&Yu w.p)=false;rw[←M.1,←M.2];first|(rw[bι.2 j];rfl)|(rw[j,c97];rfl)
  refine OK.YS (J':=JP d (d.plain.Xg i<|k+1)<|m+1) O (JP.ZV _ _ _) (λh Y w B=>⟨A2,⟨y,hb2,t,g,by rw[r];exact Bv hpk hG W⟩,B⟩) ?_;refine Ro 4 O I<|Ab.D.lp ⟨k+1,I,I,O,O,O,O,O,O,Zo⟩
 refine ro 7 O ?_;refine OK.YS (J':=JP A (Xz rest A.plain i).1<|m+1) O (JP.ZV _ _ _) (λh Y w B=>B.elim λA' h1=>⟨A',⟨h1.1.1,h1.1.2.1.trans hL.b,h1.1.2.2.1.trans hL.pb,h1.1.2.2.2.1.trans hL.len,h1.1.2.2.2.2.trans<|(yQ _ _<|by show k=R (d.parts.map _);rw[Zx];omega).trans<|by rw[F,hpl1];rfl⟩,h1.2⟩) ?_;refine OK.ret ⟨Y3.r1 (zo O O) ?_,O,Zo⟩;rw[F];try rfl
def Cc(a:A.Ok m)(g:m+2<=1000)(e:Ka A.XR){n:Int}(d:R rest<=600):U_ prog 163 [] [.raw<|pV A.b,.agg (Words.mk [n] [rest]).cs] [(3000,.res<|Z9 A.mem)] [(3000,.res<|JX A.b (YJ A.plain n<|Xz rest).1<|m+2)]<|bv (YJ A.plain n<|Xz rest).2:=by
 refine cH func163 O λj=>?_
 refine ro 8 O<|OK.Tr [3] [(3,.ptr 3 0),(1003,.box (Words.mk [n] [rest]).cs),(3000,.res<|Z9 A.mem)] 2 O O O O O O ⟨O,O,O,Zo⟩ O<|OK.Tr [] [(2,.Yt [.raw<|pV A.b]),(3000,.res<|Z9 A.mem)] 3 O O O O O O ⟨O,O,Zo⟩ O<|ro 3 O<|kc (S.LJ .none O (zt O) (zt O) O O) ?_;refine RK.c (S.VO (((RF a g (n:=n) (tx:=[rest]) (f:=211) (caps:=[.Yt (Words.mk [n] [rest]).cs,.Yt [.raw<|pV A.b]]) call211 O O (ac:=Xz rest) (λi v h _=>Ew a g e d h) λi=>uY A rest i).Tq j<|Z9.ZV _)) (JX.ZV _ _ _) call207 .none O (zc O<|zc O<|zc O .nil) O O) ?_;refine rr 3 O<|OK.ret ⟨Y3.r1 (zo O O) ?_,O,Zo⟩;rfl
def eff_9:Tl 9:=λa b _ d _ c=>Cc a b d c.1
def rQ(h:k<13):Tl k:=by
 match k,h with
 |0,_=>exact @eff_0
 |1,_=>exact @dU
 |2,_=>exact @dV
 |3,_=>exact @dW
 |4,_=>exact @dX
 |5,_=>exact @eff_5
 |6,_=>exact @dY
 |7,_=>exact @eff_7
 |8,_=>exact @eff_8
 |9,_=>exact @eff_9
 |10,_=>exact @mB
 |11,_=>exact @mC
 |12,_=>exact @mD
variable{l:List Entry}
def An(h:∀x∈l,R x.text<=100000):N6 l:=λx a=>⟨h x a,λ_ b=>rQ (Y8 b).1⟩
variable{n:Net}
theorem Cu(a:(U4 n).2≠0):Z2 n l=(Z6.init n (ZO n.plan).1,0,(U4 n).2):=by
 simp_all[L_,OD,Z2]
variable{x:Entry}
def fO{y:Entry}:(!Nq [.i x.at_,.s x.OR,.s x.text] [.i y.at_,.s y.OR,.s y.text])=decide (x≠y):=by
 cases x;cases y;simp[Nq,Pl.eq,Entry.mk.injEq]
variable{α:Type}
theorem entry_len[DecidableEq α]{a b:List α}(h:R a≠R b):false=decide (a=b):=by grind
theorem entry_at[DecidableEq α]{a b:List α}(d:i<R a)(c:i<R b)(h:a[i]≠b[i]):false=decide (a=b):=by grind
theorem entry_end[DecidableEq α]{a b:List α}(c:R a=R b)(h:∀(k:Nat)(e:k<R a)(d:k<R b),a[k]=b[k]):true=decide (a=b):=by grind [List.ext_getElem]
def UK(x:Entry):Bool:=!((decide (200<R x.text)&&decide (R x.text<=600))||(decide (620<R x.text)||decide (20<R x.OR)))
def Xv(l:List Entry):Bool:=!((decide (40<R l)&&decide (R l<=60))||decide (64<R l))&&l.all UK
theorem P5(h:(200<R x.text/\R x.text<=600)\/620<R x.text\/20<R x.OR):UK x=false:=by
 unfold UK;grind
theorem xA(h:¬(200<R x.text/\R x.text<=600))(b:¬620<R x.text)(a:¬20<R x.OR):UK x=true:=by
 grind [UK]
theorem jL(h:UK x=true):R x.text<=620:=by
 grind [P5]
theorem qS(h:(40<R l/\R l<=60)\/64<R l):Xv l=false:=by
 unfold Xv;grind
theorem fq(h:¬(40<R l/\R l<=60))(a:¬64<R l):Xv l=l.all UK:=by
 grind [Xv]
theorem Ox(hi:i<R l)(a:UK l[i]=false):(l.drop i).all UK=false:=by
 grind [List.drop_eq_getElem_cons]
theorem xB(hi:i<R l)(a:UK l[i]=true):(l.drop i).all UK=(l.drop<|i+1).all UK:=by
 grind [List.drop_eq_getElem_cons]
def dz(h:Xv l=true):R l<=64/\∀x∈l,R x.text<=620:=by
 simp_all[Xv,jL]
theorem runT_app:∀(l:List Entry)(H:Z6)(i:Nat)(x:Entry),(runT H i l).2.2=0->(runT H i<|l++[x]).2.2=(Za (runT H i l).1 x).2
 |[],H,i,x,_=>by
  show(runT H i [x]).2.2=(Za H x).2;rw[runT];split
  ·rfl
  rename_i h;rw[Zu.1 h];rfl
 |y::l,H,i,x,h=>by
  rw[H5,runT];rw[runT]at h⊢;by_cases e:(Za H y).2=0
  ·rw[Zm<|Zp e]at h⊢;rw[Zm<|Zp e];exact runT_app l _ _ x h
  simp_all
def sI:∀(l:List Entry)(H:Z6)(i:Nat),(runT H i l).2.2=0->(runT H i l).1.entries=H.entries+R l
 |[],H,i,_=>(Int.add_zero _).symm
 |y::l,H,i,h=>by
  rw[runT]at h⊢;by_cases e:(Za H y).2=0
  ·rw[Zm<|Zp e]at h⊢;rw[sI l _ _ h,(Dw e).1,tt];omega
  simp_all
def qK:∀(l:List Entry)(H:Z6)(i:Nat),(runT H i l).1.plan=H.plan/\(runT H i l).1.XR=H.XR
 |[],_,_=>⟨rfl,rfl⟩
 |y::l,H,i=>by
  rw[runT];split
  ·exact UY H y
  obtain⟨a,b⟩:=qK l (Za H y).1<|i+1;simp_all[UY]
theorem Ur(h:(Z2 n l).2.2=0):(U4 n).2=0/\R l<=60/\Z2 n l=runT (Z6.init n (ZO n.plan).1) 0 l:=by
 grind [C7,Jn,Cu]
def replay_pl(h:(Z2 n l).2.2=0):Y_ (Z2 n l).1.plan=0/\Ka (Z2 n l).1.XR:=by
 obtain⟨a,_,e⟩:=Ur h;rw[e,(qK _ _ _).1,(qK _ _ _).2];exact⟨Sx (J6 a).2,fY a⟩
theorem replay_app(h:(Z2 n l).2.2=0):(Z2 n<|l++[x]).2.2=(Za (Z2 n l).1 x).2:=by
 obtain⟨a,b,e⟩:=Ur h;rw[e]at h⊢;have c:=sI _ _ _ h;grind [Z6.init,C7,Z6.head,Zy,Rf,Za,Jn,runT_app]
def dB(n:Net)(l:List Entry)(x:Entry):Int:=if(Z2 n l).2.2≠0 then(Z2 n l).2.2 else(Za (Z2 n l).1 x).2
def appT(n:Net)(l:List Entry)(x:Entry):List Entry:=if dB n l x≠0 then []else l++[x]
def appE_1(h:(Z2 n l).2.2≠0):dB n l x=(Z2 n l).2.2:=Zn h
def appE_2(h:(Z2 n l).2.2=0):dB n l x=(Za (Z2 n l).1 x).2:=Zm<|Zp h
def appT_1(h:dB n l x≠0):appT n l x=[]:=Zn h
def appT_2(h:dB n l x=0):appT n l x=l++[x]:=Zm<|Zp h
def S8(hlen:R l<=100000):Ct prog 15 [.sl<|l.map Entry.cs]<|.sl<|l.map Entry.cs:=by
 refine cI func15 O<|kr<|kc (S.assign .none O .Ya)<|rr 4 O<|RK.c (zM [] x9 O O O O)<|jm O ?_;refine RK.c (S.V2 x9 .none O (zt O) O N (zt O) (by intro q a;obtain⟨b,_,rfl⟩:=rx.1 a;rfl) O (by simp only[Zx];omega)<|by simp only[maxLen,Zx];omega) ?_;refine rr 3 O ?_;refine OK.ret<|Y3.r1 (.tmp O O (.c (.own O O N) O) O) ?_;rfl
def G9(c:R n.plan<=1000)(d:∀x∈l,R x.text<=100000):Ct prog 18 [.agg n.cs,.sl<|l.map Entry.cs]<|bv (Z2 n l).2.2:=by
 refine cI func18 O<|ro 10 O<|kc (zK (G_ c) call49 O)<|rr 9 O<|kB O (λa=>?_) λa=>?_
 ·have e:=Cu (l:=l) a;refine ro 6 O<|kR O O ?_;rw[e];try rfl
 have b:=Zu.1 a;refine ro 6 O<|kc (zK (Jk c b d) call69 O)<|rr 16 O<|kR O O ?_;rfl
def C2:Ct prog 12 [.sl<|l.map Entry.cs]<|.bool<|Xv l:=by
 refine cI func12 O<|OK.XF (rows:=l.map Entry.cs) (t:=0) O O λhlen=>?_;rw[Zx]at hlen;unfold maxLen at hlen;refine ro 9 O<|kc (zk Vy O)<|rr 2 O<|RK.ZS (t:=8) O (λp=>?_) λp=>?_
 ·refine kc (S.move (zg O O) O<|zt O)<|kc (S.OF Vy (zg O O) O<|zt O)<|rr 3 O<|RK.ZS (t:=13) O (λo=>?_) λo=>?_
  ·have b:Xv l=false:=qS I;refine rr 12 O<|kR O O ?_;rw[b];try rfl
  refine kc (S.move (zg O O) O<|zt O)<|kc (S.OF Vy (zg O O) O<|zt O)<|rr 4 O<|kB O (λk=>?_) λk=>?_
  ·have b:Xv l=false:=qS I;refine ro 5 O<|kR O O ?_;rw[b];try rfl
  have f:=fq (l:=l) I I;refine ro 9 O ?_;refine OK.loop (G:=Nat) [] (λi=>[(0,.sl<|l.map Entry.cs),(3,bv i)]) (λi=>i<=R l/\Xv l=(l.drop i).all UK) (λi=>R l - i) 0 ⟨Zr _,f⟩ ⟨O,O,Zo⟩ (λ_=>O) ?_;rintro i ⟨hi,c⟩;refine ro 5 O<|kc (zk Vy O)<|rr 3 O<|kB O (λj=>?_) λj=>?_
  ·have a:i<R l:=by omega
   refine ro 8 O<|kc (zI Vy O I O) ?_;refine rr 11 O<|RK.ZS (t:=32) O (λh=>?_) λh=>?_
   ·refine rr 4 O<|RK.ZS (t:=36) O (λg=>?_) λg=>?_
    ·have b:Xv l=false:=by rw[c,Ox a<|P5 I]
     refine rr 20 O<|kR O O ?_;rw[b];try rfl
    refine rr 4 O<|RK.ZS (t:=40) O (λd=>?_) λd=>?_
    ·have b:Xv l=false:=by rw[c,Ox a<|P5 I]
     refine rr 16 O<|kR O O ?_;rw[b];try rfl
    refine rr 2 O<|kc (S.Zi (n:=i) Vy (zg O O) O (zt O) (zt O) O I O) ?_;refine rr 7 O<|kB O (λe=>?_) λe=>?_
    ·have b:Xv l=false:=by rw[c,Ox a<|P5 I]
     refine ro 5 O<|kR O O ?_;rw[b];try rfl
    refine Ro 8 O I (Ab.D.lp ⟨i+1,⟨by omega,by rw[c,xB a<|xA I I I]⟩,I,O,O,Zo⟩)
   refine rr 8 O<|RK.ZS (t:=40) O (λd=>?_) λd=>?_
   ·have b:Xv l=false:=by rw[c,Ox a<|P5 I]
    refine rr 16 O<|kR O O ?_;rw[b];try rfl
   refine rr 2 O<|kc (S.Zi (n:=i) Vy (zg O O) O (zt O) (zt O) O I O) ?_;refine rr 7 O<|kB O (λe=>?_) λe=>?_
   ·have b:Xv l=false:=by rw[c,Ox a<|P5 I]
    refine ro 5 O<|kR O O ?_;rw[b];try rfl
   refine Ro 8 O I (Ab.D.lp ⟨i+1,⟨by omega,by rw[c,xB a<|xA I I I]⟩,I,O,O,Zo⟩)
  have b:Xv l=true:=by rw[c,show i=R l by omega,da];rfl
  refine ro 7 O<|kR O O ?_;rw[b];try rfl
 refine rr 6 O<|kc (S.OF Vy (zg O O) O<|zt O)<|rr 4 O<|kB O (λk=>?_) λk=>?_
 ·have b:Xv l=false:=qS I;refine ro 5 O<|kR O O ?_;rw[b];try rfl
 have f:=fq (l:=l) I I;refine ro 9 O ?_;refine OK.loop (G:=Nat) [] (λi=>[(0,.sl<|l.map Entry.cs),(3,bv i)]) (λi=>i<=R l/\Xv l=(l.drop i).all UK) (λi=>R l - i) 0 ⟨Zr _,f⟩ ⟨O,O,Zo⟩ (λ_=>O) ?_;rintro i ⟨hi,c⟩;refine ro 5 O<|kc (zk Vy O)<|rr 3 O<|kB O (λj=>?_) λj=>?_
 ·have a:i<R l:=by omega
  refine ro 8 O<|kc (zI Vy O I O) ?_;refine rr 11 O<|RK.ZS (t:=32) O (λh=>?_) λh=>?_
  ·refine rr 4 O<|RK.ZS (t:=36) O (λg=>?_) λg=>?_
   ·have b:Xv l=false:=by rw[c,Ox a<|P5 I]
    refine rr 20 O<|kR O O ?_;rw[b];try rfl
   refine rr 4 O<|RK.ZS (t:=40) O (λd=>?_) λd=>?_
   ·have b:Xv l=false:=by rw[c,Ox a<|P5 I]
    refine rr 16 O<|kR O O ?_;rw[b];try rfl
   refine rr 2 O<|kc (S.Zi (n:=i) Vy (zg O O) O (zt O) (zt O) O I O) ?_;refine rr 7 O<|kB O (λe=>?_) λe=>?_
   ·have b:Xv l=false:=by rw[c,Ox a<|P5 I]
    refine ro 5 O<|kR O O ?_;rw[b];try rfl
   refine Ro 8 O I (Ab.D.lp ⟨i+1,⟨by omega,by rw[c,xB a<|xA I I I]⟩,I,O,O,Zo⟩)
  refine rr 8 O<|RK.ZS (t:=40) O (λd=>?_) λd=>?_
  ·have b:Xv l=false:=by rw[c,Ox a<|P5 I]
   refine rr 16 O<|kR O O ?_;rw[b];try rfl
  refine rr 2 O<|kc (S.Zi (n:=i) Vy (zg O O) O (zt O) (zt O) O I O) ?_;refine rr 7 O<|kB O (λe=>?_) λe=>?_
  ·have b:Xv l=false:=by rw[c,Ox a<|P5 I]
   refine ro 5 O<|kR O O ?_;rw[b];try rfl
  refine Ro 8 O I (Ab.D.lp ⟨i+1,⟨by omega,by rw[c,xB a<|xA I I I]⟩,I,O,O,Zo⟩)
 have b:Xv l=true:=by rw[c,show i=R l by omega,da];rfl
 refine ro 7 O<|kR O O ?_;rw[b];try rfl
def AD{a b:List Entry}:Ct prog 31 [.sl<|a.map Entry.cs,.sl<|b.map Entry.cs]<|.bool<|decide<|a=b:=by
 refine cI func31 O<|OK.XF (rows:=a.map Entry.cs) (t:=0) O O λhlen=>?_;rw[Zx]at hlen;unfold maxLen at hlen;refine ro 9 O<|kc (zk Vy O)<|jm O<|kc (zk Vy O)<|rr 3 O<|kB O (λo=>?_) λo=>?_
 ·refine ro 5 O<|kR O O ?_;exact Xj<|entry_len I
 have g:R a=R b:=by omega
 refine ro 9 O ?_;refine OK.loop (G:=Nat) [] (λi=>[(0,.sl<|a.map Entry.cs),(1,.sl<|b.map Entry.cs),(5,bv i)]) (λi=>i<=R a/\∀(m:Nat)(f:m<R a)(e:m<R b),m<i->a[m]=b[m]) (λi=>R a - i) 0 ⟨Zr _,λm _ _ h=>absurd h I⟩ ⟨O,O,O,Zo⟩ (λ_=>O) ?_;rintro i ⟨hi,p⟩;refine ro 5 O<|kc (zk Vy O)<|rr 3 O<|kB O (λn=>?_) λn=>?_
 ·have l:i<R a:=by omega
  have j:i<R b:=by omega
  refine ro 5 O<|kV (.c (zm O)<|.c (zm O)<|.c (zI Vy O I O)<|.c (S.Vj rT .none O (zt O) O O)<|.c (zm O)<|.c (zm O)<|.c (zI Vy O I O)<|.c (S.Vj rT .none O (zt O) O O)<|.c (S.pneq (b:=decide<|a[i]≠b[i]) [.i 0,.s [],.s []] [.i a[i].at_,.s a[i].OR,.s a[i].text] [.i b[i].at_,.s b[i].OR,.s b[i].text] eqp95 .none O (zt O) (zt O) O O O O fO) .nil)<|Ab.D.code<|kB O (λd=>?_) λd=>?_
  ·refine ro 5 O<|kR O O ?_;exact Xj<|entry_at l j d
  refine Ro 8 O I ?_;refine Ab.D.lp ⟨i+1,⟨by omega,λm f e h=>by rcases w7 m i with q|q;exact p m f e q;obtain rfl:m=i:=I;exact Zu.1 d⟩,I,O,O,O,Zo⟩
 refine ro 7 O<|kR O O ?_;exact Xj<|entry_end g λk f e=>p k f e I
def j5(f:R l<=100000):CtO prog 77 [.sl<|l.map Entry.cs] 3<|l.map Entry.cs:=by
 refine CtO.intro func77 rfl ntmps77 results77 rfl rfl rfl λw h=>?_
 refine kr<|kc (S.assign .none O .Ya)<|rr 6 O<|RK.xE (t:=3) O O λe a=>?_;refine kc (S.mL underlying27 .none O<|zt O)<|kD<|OK.cond O O (λb=>?_) λb=>?_
 ·refine kr<|RK.c (S.XG (k:=2) (sz:=3) .none O)<|kD ?_;refine OK.ret<|rS.mk O O O N ?_;rw[bα.1<|a b];rfl
 refine ro 4 O<|RK.c (zM [] x9 O O O O)<|jm O ?_;refine RK.c (S.V2 x9 .none O (zt O) O N (zt O) (by intro q d;obtain⟨x,_,rfl⟩:=rx.1 d;rfl) (Zx ..) I<|by simp only[maxLen];omega) ?_;refine rr 3 O ?_;refine OK.ret<|rS.mk O O O N ?_;rfl
def rec_Appended(r:R n.plan<=1000)(hlen:R l<=1000)(t:∀x∈l,R x.text<=100000)(q:R x.text<=100000):Q7 prog 54 [.agg n.cs,.sl<|l.map Entry.cs,.agg x.cs]<|.Yy [.sl<|(appT n l x).map Entry.cs,bv<|dB n l x]:=by
 refine cT func54 O λp=>?_
 refine ro 4 O<|kc (S.assign .none O .Ya)<|rr 7 O ?_;refine RK.Ng (((R2 r<|An t).at p)) (λ_=>Mf.ZV _ _ _) (λ_=>Mf.mono) call64 O (zc O<|zc O .nil) O λA=>?_
 refine rr 16 O<|kB O (λf=>?_) λf=>?_
 ·refine OK.Ld f O λo j=>?_
  have b:=appE_2 (x:=x) f;obtain⟨g,h⟩:=replay_pl f;rw[Jm f];rw[←j]at g h b;refine ro 3 O ?_;refine RK.c (S.VO (((Au (m:=400) o I g h q λ_ u=>rQ (Y8 u).1).Tq p<|Z9.ZV _)) (JX.ZV _ _ _) call78 .none O (zc O<|zc O .nil) O O) ?_;refine rr 10 O<|kB O (λe=>?_) λe=>?_
  ·have a:dB n l x≠0:=by rw[b];exact e
   have d:=appT_1 a;refine ro 3 O<|kc (S.assign .none O .Ya)<|rr 3 O<|kS O O O O ?_;rw[d,b];try rfl
  have a:dB n l x=0:=by rw[b];exact Zu.1 e
  have d:=appT_2 a;refine ro 3 O ?_;refine kV (.c (zm O)<|.c (S.dQ (k:=27) (j5 (l:=l) I) call77 .none O (zc O .nil) O<|Zx ..)<|.c (zL rT O O O O)<|.c (zM [[_,_,_]] x9 O O O O)<|.c (zP x9 O O N N I<|by simp only[maxLen];omega)<|.c (za O)<|.c (zi O O) .nil) ?_;refine Ab.D.code ?_;refine OK.ret<|Y3.r2 (.tmp O O (.c (.own O O N) O) O) (zo O O) ?_;rw[d,a,ne]
  try rfl
 have b:=appE_1 (x:=x) f;refine ro 9 O<|kB O (λe=>?_) λe=>?_
 ·have a:dB n l x≠0:=by rw[b];exact e
  have d:=appT_1 a;refine ro 3 O<|kc (S.assign .none O .Ya)<|rr 3 O<|kS O O O O ?_;rw[d,b];try rfl
 have a:dB n l x=0:=by rw[b];exact Zu.1 e
 have d:=appT_2 a;refine ro 3 O ?_;refine kV (.c (zm O)<|.c (S.dQ (k:=27) (j5 (l:=l) I) call77 .none O (zc O .nil) O<|Zx ..)<|.c (zL rT O O O O)<|.c (zM [[_,_,_]] x9 O O O O)<|.c (zP x9 O O N N I<|by simp only[maxLen];omega)<|.c (za O)<|.c (zi O O) .nil) ?_;refine Ab.D.code ?_;refine OK.ret<|Y3.r2 (.tmp O O (.c (.own O O N) O) O) (zo O O) ?_;rw[d,a,ne]
 try rfl
def refO_CopyLog(hlen:R l<=100000):CtO prog 15 [.sl<|l.map Entry.cs] 3<|l.map Entry.cs:=by
 refine CtO.intro func15 rfl ntmps15 results15 rfl rfl rfl λw h=>?_
 refine kr<|kc (S.assign .none O .Ya)<|rr 4 O<|RK.c (zM [] x9 O O O O)<|jm O ?_;refine RK.c (S.V2 x9 .none O (zt O) O N (zt O) (by intro q a;obtain⟨x,_,rfl⟩:=rx.1 a;rfl) (Zx ..) I<|by simp only[maxLen];omega) ?_;refine rr 3 O ?_;refine OK.ret<|rS.mk O O O N ?_;rfl
theorem ref10_LogErrA(a:R n.plan<=1000)(d:∀x∈l,R x.text<=100000)(c:R x.text<=100000):Ct prog 18 [.agg n.cs,.sl<|l.map Entry.cs++[x.cs]]<|bv (Z2 n<|l++[x]).2.2:=by
 have k:=G9 (n:=n) (l:=l++[x]) a λy b=>by
  grind
 simp_all
def ver_pne{r:ba}{k:Int}:(!Nq [.s r,.i k] [.s r,.i k])=false:=by simp[Nq,Pl.eq]
def eqSpan:dw prog 39 4:=dw.mk_two (T:=37) (am:=3) V underlying39 V V underlying37 V V isAgg37 sizeOf37 underlying3 isAgg3
def sF{a:Part}:Ct prog 19 [.agg a.cs,.agg a.cs]<|.bool true:=by
 refine cI func19 O<|OK.Qd 0 4 (a.frames.map Frame.cs) O O O λhlen=>?_;rw[Zx]at hlen;unfold maxLen at hlen;refine ro 16 O<|RK.ZS (t:=11) O (λl=>?_) λl=>?_
 ·exact absurd rfl l
 refine rr 4 O<|kc (S.pneq (b:=false) [.s [],.i 0] [.s a.Yr,.i a.YD] [.s a.Yr,.i a.YD] ET (zg O O) O (zt O) (zt O) O O O O ver_pne)<|rr 9 O<|RK.ZS (t:=25) O (λk=>?_) λk=>?_
 ·exact absurd rfl k
 refine rr 7 O<|RK.ZS (t:=32) O (λj=>?_) λj=>?_
 ·exact absurd rfl j
 refine rr 4 O<|kc (S.bneq underlying4 (zg O O) O (zt O)<|zt O)<|rr 2 O<|RK.ZS (t:=39) O (λh=>?_) λh=>?_
 ·simp at h
 refine rr 7 O<|RK.ZS (t:=46) O (λg=>?_) λg=>?_
 ·exact absurd rfl g
 refine rr 4 O<|kc (S.bneq underlying4 (zg O O) O (zt O)<|zt O)<|rr 2 O<|RK.ZS (t:=53) O (λf=>?_) λf=>?_
 ·simp at f
 refine rr 4 O<|kc (S.aneq [a.depth.lo.num,a.depth.lo.den,a.depth.hi.num,a.depth.hi.den] [a.depth.lo.num,a.depth.lo.den,a.depth.hi.num,a.depth.hi.den] eqSpan (zg O O) O (zt O) (zt O) O O O O)<|rr 2 O<|RK.ZS (t:=60) O (λe=>?_) λe=>?_
 ·exact absurd rfl e
 refine rr 2 O<|kc (S.OF Rh (zg O O) O<|zt O)<|rr 2 O<|kc (S.OF Rh (zg O O) O<|zt O)<|rr 4 O<|kB O (λo=>?_) λo=>?_
 ·exact absurd rfl o
 refine ro 9 O ?_;refine OK.loop (G:=Nat) [2,3] (λi=>[(2,.ptr 2 0),(1002,.box a.cs),(3,.ptr 3 0),(1003,.box a.cs),(5,bv i)]) (λi=>i<=R a.frames) (λi=>R a.frames - i) 0 (Zr _) ⟨O,O,O,O,O,Zo⟩ (λ_=>O) ?_;rintro i hi;refine ro 6 O<|kc (zk Rh O)<|rr 3 O<|kB O (λp=>?_) λp=>?_
 ·have q:i<R a.frames:=by omega
  refine ro 5 O ?_;refine kV (.c (zf VC O)<|.c (zl Qq O O O O)<|.c (zm O)<|.c (zI Rh O I O)<|.c (S.field G7 .none O (zt O) O)<|.c (zV YK O O)<|.c (zf VC O)<|.c (zl Qq O O O O)<|.c (zm O)<|.c (zI Rh O I O)<|.c (S.field G7 .none O (zt O) O)<|.c (zV YK O O)<|.c (S.neq .none O (zt O)<|zt O)<|.c (zm O)<|.c (S.VN VC (.yes O O O F) O<|zt O)<|.c (S.YH Qq (.yes O O O F) O (zt O) O O O O)<|.c (S.move (.yes O O O F) O<|zt O)<|.c (S.Zi (n:=i) Rh (.yes O O O F) O (zt O) (zt O) O I O)<|.c (S.field OI (.yes O O O F) O (zt O) O)<|.c (S.Q_ Vr (.yes O O O F) O (zt O) O)<|.c (S.VN VC (.yes O O O F) O<|zt O)<|.c (S.YH Qq (.yes O O O F) O (zt O) O O O O)<|.c (S.move (.yes O O O F) O<|zt O)<|.c (S.Zi (n:=i) Rh (.yes O O O F) O (zt O) (zt O) O I O)<|.c (S.field OI (.yes O O O F) O (zt O) O)<|.c (S.Q_ Vr (.yes O O O F) O (zt O) O)<|.c (S.call (Me (a:=a.frames[i].values) (b:=a.frames[i].values)) call22 (.yes O O O F) O (zc O<|zc O .nil) O)<|.c (S.Xb (.yes O O O F) O<|zt O)<|.c (S.Ug .none O (zt O) (zt O) F) .nil) ?_;refine Ab.D.code<|kB O (λd=>?_) λd=>?_
  ·simp at d
  refine Ro 8 O I<|Ab.D.lp ⟨i+1,I,I,O,O,O,O,O,Zo⟩
 refine ro 7 O<|kR O O ?_;rfl
def PlOk(a b:Int):Prop:=b=a\/(a=0/\b=1)\/(a=1/\2<=b/\b<=4)
def untilT(l:List Entry)(t:Int):List Entry:=l.takeWhile λx=>decide<|x.at_<=t
def xp:∀(l:List Entry)(H:Z6)(i k:Nat),(runT H i l).2.2=0->(runT H i<|l.take k).2.2=0
 |[],_,_,k,h=>by rw[List.take_nil];exact h
 |x::l,H,i,0,h=>rfl
 |x::l,H,i,k+1,h=>by
  rw[List.take_succ_cons];rw[runT]at h⊢;by_cases e:(Za H x).2=0
  ·rw[Zm<|Zp e]at h⊢;exact xp l _ _ k h
  rw[Zn e]at h;exact absurd h e
def UP(h:(Z2 n l).2.2=0)(k:Nat):(Z2 n<|l.take k).2.2=0:=by
 obtain⟨a,b,e⟩:=Ur h;rw[Jn a<|by rw[sc];omega];rw[e]at h;exact xp _ _ _ k h
def enter_at(h:(Za H x).2=0):H.time<=x.at_:=by
 have a:H.head x=0:=by
  unfold Za at h;by_cases a:H.head x=0
  ·exact a
  rw[Zn a]at h;exact h
 exact(HV a).2.2.2.1
def runT_ord:∀(l:List Entry)(H:Z6)(i:Nat),(runT H i l).2.2=0->(∀x∈l,H.time<=x.at_)/\l.Pairwise λx y=>x.at_<=y.at_
 |[],_,_,_=>⟨λx h=>(by cases h),List.Pairwise.nil⟩
 |x::l,H,i,h=>by
  rw[runT]at h;by_cases e:(Za H x).2=0
  ·rw[Zm<|Zp e]at h;obtain⟨a,b⟩:=runT_ord l _ _ h;rw[(Dw e).2]at a;have c:=enter_at e;refine⟨λy d=>?_,List.Pairwise.cons a b⟩;rcases sf.1 d with rfl|d
   ·exact c
   have:=a y d;omega
  rw[Zn e]at h;exact absurd h e
def until_take(t:Int):∀(l:List Entry)(k:Nat),(∀x∈l.take k,x.at_<=t)->(∀x∈l.drop k,t<x.at_)->untilT l t=l.take k
 |[],_,_,_=>by rw[List.take_nil];rfl
 |x::l,0,_,h=>by
  have:=h x F;unfold untilT;rw[List.takeWhile_cons_of_neg<|by simpa using this];rfl
 |x::l,k+1,h1,h2=>by
  have b:=until_take t l k (λy a=>h1 y<|by simp[a]) (λy a=>h2 y<|by simpa using a);have:=h1 x F;unfold untilT at b⊢;rw[List.takeWhile_cons_of_pos<|by simpa using this,b];rfl
variable{t:Int}
def until_at(h:(Z2 n l).2.2=0)(p:k<=R l)(g:∀x∈l.drop k,t<x.at_)(j:∀(a:k - 1<R l),0<k->l[k - 1].at_<=t):untilT l t=l.take k:=by
 refine until_take t l k (λx c=>?_) g;obtain⟨o,_,e⟩:=Ur h;rw[e]at h;have d:=aπ.1 (runT_ord _ _ _ h).2;obtain⟨i,hi,rfl⟩:=dγ.1 c;rw[sc]at hi;rw[dξ];have a:k - 1<R l:=I
 have f:=j a I;by_cases b:i=k - 1
 ·subst b;exact f
 have:=d i (k - 1) I a I;omega
def xT(h:¬(Z2 n l).2.2≠0):Xi n l=(Z2 n l).1.st:=Zm h
def backT_1(h:(Z2 n l).2.2≠0):Xi n l=State.zero:=Zn h
def fW(A:HA):A.plain.st.ZJ=A.ZF.map (·.r):=by show(A.ZF.map _).map _=_;rw[ae];rfl
def plain_coils(A:HA):A.plain.st.Z5=A.Z5.map (·.c):=by show(A.Z5.map _).map _=_;rw[ae];rfl
def plain_parts(A:HA):A.plain.st.parts=A.parts.map (·.p):=by show(A.parts.map _).map _=_;rw[ae];rfl
def st_cs(A:HA):A.plain.st.cs=[.sl<|A.ZF.map λv=>v.r.cs,.sl<|A.Z5.map λv=>v.c.cs,.sl<|A.parts.map λv=>v.p.cs,.sl<|A.Z3.map λi=>[bv (A.plain.p i).num],bv A.env.parts,bv A.env.trim,.sl<|A.env.rows.map λl=>[.sl<|l.map Range.cs]]:=by
 unfold State.cs;rw[fW,plain_coils,plain_parts];show [X.sl _,X.sl _,X.sl _,X.sl<|(A.Z3.map _).map _,X.int .i64 A.env.parts,X.int .i64 A.env.trim,_]=_;rw[ae,ae,ae,ae];rfl
def atE(n:Net)(l:List Entry)(t:Int):Int:=ZW [(Z2 n l).2.2,Z8 (decide<|0<=t/\t<=1000000000000) 2]
def atT(n:Net)(l:List Entry)(t:Int):State:=if atE n l t≠0 then State.zero else Xi n (untilT l t)
def atE_0(h:atE n l t=0):(Z2 n l).2.2=0:=by
 unfold atE at h;rw[ZW]at h;by_cases a:(Z2 n l).2.2=0
 ·exact a
 rw[Zn a]at h;exact absurd h a
def N6.take{l:List Entry}(h:N6 l)(k:Nat):N6<|l.take k:=λx a=>h x<|eν a
def PhLt{p:Ph}{l:List Ph}(h:p∈l):SizeOf.sizeOf p.body<SizeOf.sizeOf l:=by
 have a:=List.sizeOf_lt_of_mem h;cases p;simp only[Ph.mk.sizeOf_spec]at a;show SizeOf.sizeOf (_:List Ph)<_;simp only[Ph.body];omega
def coil_pne{r:ba}{a b:Int}:(!Nq [.s r,.i a,.i b] [.s r,.i a,.i b])=false:=by simp[Nq,Pl.eq]
def rec_state(d:A.Ok m){J:bm}(H:Y2 J)(g:∀h Y w,J h Y w->Z9 A.mem h Y w):Vi prog 80 [] [.raw<|pV A.b] [(3000,.res J)] [(3000,.res J)]<|.agg A.plain.st.cs:=by
 refine cG func80 O λ{_ _}=>?_
 have y:=d.m0;have z:=d.lv;have F:=d.lc;have B:=d.lp;have C:=d.lm;refine ro 10 O ?_;refine kc (zJ (us:=[bv A.env.parts,bv A.env.trim,.sl<|A.env.rows.map λl=>[.sl<|l.map Range.cs]]) Md O<|J_ g<|Z9.KL (k:=.Y1) (xs:=A.cs) O ⟨.same _,.same _,.same _,Zo⟩ O) ?_;refine kc (zU af O O)<|rr 10 O<|kc (zH (u:=.sl<|A.ZF.map P6) EU O<|J_ g<|Z9.Xh (k:=.Y1) O O<|.sl d.vs)<|kc (zk Ai O)<|rr 4 O<|OK.VL 3 0 880 3 O O O O O ?_;refine OK.loop (G:=Nat) [2,3,880] (λi=>[(0,.raw<|pV A.b),(2,.ptr 2 0),(1002,.box [.ZM,.ZM,.ZM,.ZM,bv 0,bv 0,.ZM]),(3,.ptr 3 0),(1003,.box [.own 880 i,.ZM,.ZM,.ZM,bv A.env.parts,bv A.env.trim,.sl<|A.env.rows.map λl=>[.sl<|l.map Range.cs]]),(2880,.arr 3<|(A.ZF.take i).map λv=>v.r.cs),(20,.sl<|A.ZF.map P6),(21,bv<|R A.ZF),(22,bv i),(3000,.res J)]) (λi=>i<=R A.ZF) (λi=>R A.ZF - i) 0 (Zr _) ⟨O,O,O,O,O,(ZX N),O,O,O,O,Zo⟩ (λ_=>O) ?_;rintro i hi;refine ro 6 O<|kB O (λx=>?_) λx=>?_
 ·have a:i<R A.ZF:=by omega
  obtain⟨v,f⟩:=Yh a;have e:A.ZF[i]=v:=by rw[Zv a]at f;exact aγ f
  refine ro 6 O<|kc (zI Ai O I O) ?_;refine rr 4 O ?_;rw[e];refine kV (.c (zf Qn O)<|.c (zl C1 O O O O)<|.c (zm O)<|.c (zn O O)<|.c (zr L8 O)<|.c (zJ (us:=v.r.cs) ti147 O<|J_ g<|Z9.KL (k:=.v i) (xs:=v.cs) (HA.sv f) ⟨.same _,.same _,.same _,Zo⟩ O)<|.c (zM [[_,_,_]] kH O O O O)<|.c (zP kH O O (by rw[Zx,List.length_take_of_le hi]) N I<|by simp only[maxLen];omega)<|.c (zf Qn O)<|.c (zS C1 O O O O O O) .nil) ?_;refine Rd 6 O I ?_;refine Ab.D.lp ⟨i+1,I,I,O,O,O,O,O,(ZX<|by rw[mv a,ne];simp only[ta,H2,e];rfl),O,O,O,O,Zo⟩
 obtain rfl:i=R A.ZF:=by omega
 rw[List.take_length];refine ro 8 O<|kc (zH (u:=.sl<|A.Z5.map Lg) C4 O<|J_ g<|Z9.Xh (k:=.Y1) O O<|.sl d.cs)<|kc (zk vo O)<|rr 4 O<|OK.TP 3 0 O O O O (Zx ..) O<|OK.VL 3 1 881 3 O O O O O ?_;refine OK.loop (G:=Nat) [2,3,881] (λi=>[(0,.raw<|pV A.b),(2,.ptr 2 0),(1002,.box [.ZM,.ZM,.ZM,.ZM,bv 0,bv 0,.ZM]),(3,.ptr 3 0),(1003,.box [.sl<|A.ZF.map λv=>v.r.cs,.own 881 i,.ZM,.ZM,bv A.env.parts,bv A.env.trim,.sl<|A.env.rows.map λl=>[.sl<|l.map Range.cs]]),(2881,.arr 3<|(A.Z5.take i).map λv=>v.c.cs),(39,.sl<|A.Z5.map Lg),(40,bv<|R A.Z5),(41,bv i),(3000,.res J)]) (λi=>i<=R A.Z5) (λi=>R A.Z5 - i) 0 (Zr _) ⟨O,O,O,O,O,(ZX N),O,O,O,O,Zo⟩ (λ_=>O) ?_;rintro i hi;refine ro 6 O<|kB O (λt=>?_) λt=>?_
 ·have a:i<R A.Z5:=by omega
  obtain⟨v,f⟩:=Yh a;have e:A.Z5[i]=v:=by rw[Zv a]at f;exact aγ f
  refine ro 6 O<|kc (zI vo O I O) ?_;refine rr 4 O ?_;rw[e];refine kV (.c (zf Oa O)<|.c (zl EW O O O O)<|.c (zm O)<|.c (zn O O)<|.c (zr P8 O)<|.c (zJ (us:=v.c.cs) ti187 O<|J_ g<|Z9.KL (k:=.c i) (xs:=v.cs) (HA.G6 f) ⟨.same _,.same _,.same _,Zo⟩ O)<|.c (zM [[_,_,_]] kI O O O O)<|.c (zP kI O O (by rw[Zx,List.length_take_of_le hi]) N I<|by simp only[maxLen];omega)<|.c (zf Oa O)<|.c (zS EW O O O O O O) .nil) ?_;refine Rd 6 O I ?_;refine Ab.D.lp ⟨i+1,I,I,O,O,O,O,O,(ZX<|by rw[mv a,ne];simp only[ta,H2,e];rfl),O,O,O,O,Zo⟩
 obtain rfl:i=R A.Z5:=by omega
 rw[List.take_length];refine ro 8 O<|kc (zH (u:=.sl<|A.parts.map Su) SC O<|J_ g<|Z9.Xh (k:=.Y1) O O<|.sl d.ps)<|kc (zk Uh O)<|rr 4 O<|OK.TP 3 1 O O O O (Zx ..) O<|OK.VL 3 2 882 13 O O O O O ?_;refine OK.loop (G:=Nat) [2,3,882] (λi=>[(0,.raw<|pV A.b),(2,.ptr 2 0),(1002,.box [.ZM,.ZM,.ZM,.ZM,bv 0,bv 0,.ZM]),(3,.ptr 3 0),(1003,.box [.sl<|A.ZF.map λv=>v.r.cs,.sl<|A.Z5.map λv=>v.c.cs,.own 882 i,.ZM,bv A.env.parts,bv A.env.trim,.sl<|A.env.rows.map λl=>[.sl<|l.map Range.cs]]),(2882,.arr 13<|(A.parts.take i).map λv=>v.p.cs),(58,.sl<|A.parts.map Su),(59,bv<|R A.parts),(60,bv i),(3000,.res J)]) (λi=>i<=R A.parts) (λi=>R A.parts - i) 0 (Zr _) ⟨O,O,O,O,O,(ZX N),O,O,O,O,Zo⟩ (λ_=>O) ?_;rintro i hi;refine ro 6 O<|kB O (λq=>?_) λq=>?_
 ·have a:i<R A.parts:=by omega
  obtain⟨v,f⟩:=Yh a;have e:A.parts[i]=v:=by rw[Zv a]at f;exact aγ f
  refine ro 6 O<|kc (zI Uh O I O) ?_;refine rr 4 O ?_;rw[e];refine kV (.c (zf WC O)<|.c (zl Vg O O O O)<|.c (zm O)<|.c (zn O O)<|.c (zr Xu O)<|.c (zJ (us:=v.p.cs) L5 O<|J_ g<|Z9.KL (k:=.p i) (xs:=v.cs) (HA.XW f) ⟨.same _,.same _,.same _,.same _,.sl<|d.fs? f,.same _,.same _,.same _,.same _,.same _,.same _,.same _,.same _,Zo⟩ O)<|.c (zM [[_,_,_,_,_,_,_,_,_,_,_,_,_]] kJ O O O O)<|.c (zP kJ O O (by rw[Zx,List.length_take_of_le hi]) N I<|by simp only[maxLen];omega)<|.c (zf WC O)<|.c (zS Vg O O O O O O) .nil) ?_;refine Rd 6 O I ?_;refine Ab.D.lp ⟨i+1,I,I,O,O,O,O,O,(ZX<|by rw[mv a,ne];simp only[ta,H2,e];rfl),O,O,O,O,Zo⟩
 obtain rfl:i=R A.parts:=by omega
 rw[List.take_length];refine ro 8 O<|kc (zH (u:=.sl<|A.Z3.map λi=>[.raw<|pV<|A.pb i]) SC O<|J_ g<|Z9.Xh (k:=.Y1) O O<|.sl d.ms) ?_;refine kc (zk Uh O)<|rr 4 O<|OK.TP 3 2 O O O O (Zx ..) O<|OK.VL 3 3 883 1 O O O O O ?_;refine OK.loop (G:=Nat) [2,3,883] (λi=>[(0,.raw<|pV A.b),(2,.ptr 2 0),(1002,.box [.ZM,.ZM,.ZM,.ZM,bv 0,bv 0,.ZM]),(3,.ptr 3 0),(1003,.box [.sl<|A.ZF.map λv=>v.r.cs,.sl<|A.Z5.map λv=>v.c.cs,.sl<|A.parts.map λv=>v.p.cs,.own 883 i,bv A.env.parts,bv A.env.trim,.sl<|A.env.rows.map λl=>[.sl<|l.map Range.cs]]),(2883,.arr 1<|(A.Z3.take i).map λi=>[bv (A.plain.p i).num]),(77,.sl<|A.Z3.map λi=>[.raw<|pV<|A.pb i]),(78,bv<|R A.Z3),(79,bv i),(3000,.res J)]) (λi=>i<=R A.Z3) (λi=>R A.Z3 - i) 0 (Zr _) ⟨O,O,O,O,O,(ZX N),O,O,O,O,Zo⟩ (λ_=>O) ?_;rintro i hi;refine ro 6 O<|kB O (λo=>?_) λo=>?_
 ·have a:i<R A.Z3:=by omega
  have n:=d.mi _<|Zt a;obtain⟨v,f⟩:=Yh n;have j:=HA.RQ f;refine ro 6 O<|kc (zI Uh O I O) ?_;refine rr 4 O ?_;rw[HA.CS f];refine kV (.c (zf C5 O)<|.c (zl Vr O O O O)<|.c (zm O)<|.c (zn O O)<|.c (zr Xu O)<|.c (zr vp O)<|.c (zH YK O<|J_ g<|Z9.Xh (k:=.p A.Z3[i]) (HA.XW f) O<|.same _)<|.c (zM [[_]] Xr O O O O)<|.c (zP Xr O O (by rw[Zx,List.length_take_of_le hi]) N I<|by simp only[maxLen];omega)<|.c (zf C5 O)<|.c (zS Vr O O O O O O) .nil) ?_;refine Rd 6 O I ?_;refine Ab.D.lp ⟨i+1,I,I,O,O,O,O,O,(ZX<|by rw[mv a,ne];simp only[ta,H2,j]),O,O,O,O,Zo⟩
 obtain rfl:i=R A.Z3:=by omega
 rw[List.take_length];refine ro 3 O<|OK.TP 3 3 O O O O (Zx ..) O<|ro 5 O<|OK.ret ⟨Y3.r1 (zy O O Zk O) ?_,O,Zo⟩;rw[st_cs];try rfl
def r_(f:R n.plan<=1000)(j:N6 l):Q7 prog 32 [.agg n.cs,.sl<|l.map Entry.cs]<|.Yy [.agg (Xi n l).cs,bv (Z2 n l).2.2]:=by
 refine cT func32 O λg=>?_
 refine ro 11 O ?_;refine RK.Ng (((R2 f j).at g)) (λ_=>Mf.ZV _ _ _) (λ_=>Mf.mono) call64 O (zc O<|zc O .nil) O λA=>?_
 refine rr 16 O<|kB O (λa=>?_) λa=>?_
 ·refine kr<|kc (zU af O O)<|rr 5 O<|OK.ret<|Y3.r2 (.XU O O O O Zk O<|.k .ZM<|.k .ZM<|.k .ZM<|.k .ZM<|.k (.same O)<|.k (.same O)<|.k .ZM .z) (zo O O) ?_;rw[backT_1 a]
  try rfl
 have b:(Z2 n l).2.2=0:=Zu.1 a;refine ro 3 O<|OK.Ld b O λd c=>?_;rw[Jm b];refine OK.R3<|jm O<|kc (S.Wc ((λJ e h=>(rec_state d e h).Tq e)) call80 .none O (zc O .nil) O O) ?_;refine rr 4 O<|kT O O Zk O O O ?_;rw[xT a,c,b]
 try rfl
def rec_StateAt(w:R n.plan<=1000)(C:N6 l):Q7 prog 56 [.agg n.cs,.sl<|l.map Entry.cs,bv t]<|.Yy [.agg (atT n l t).cs,bv<|atE n l t]:=by
 refine cT func56 O λB=>?_
 refine OK.XF (rows:=l.map Entry.cs) (t:=1) O O λhlen=>?_
 rw[Zx]at hlen;unfold maxLen at hlen;refine ro 11 O ?_;refine RK.Ng (((R2 w C).at B)) (λ_=>Mf.ZV _ _ _) (λ_=>Mf.mono) call64 O (zc O<|zc O .nil) O λA=>?_
 refine rr 14 O<|kc (zK XL call97 O)<|kc (zK ZT call96 O) ?_;refine RK.c (zM [[_],[_]] Xk O O O O)<|kc (S.XY (YI (l:=[_,_])) call76 .none O (zc O .nil) (.cons (.p (.own O O) O) .nil) O) ?_;refine rr 9 O<|kB O (λe=>?_) λe=>?_
 ·have r:atE n l t≠0:=e;have q:atT n l t=State.zero:=Zn r;refine kr<|kc (zU af O O)<|rr 5 O<|OK.ret<|Y3.r2 (.XU O O O O Zk O<|.k .ZM<|.k .ZM<|.k .ZM<|.k .ZM<|.k (.same O)<|.k (.same O)<|.k .ZM .z) (zo O O) ?_;rw[q];try rfl
 have d:atE n l t=0:=Zu.1 e;have h0:=atE_0 d;refine ro 5 O<|kc (zk Vy O)<|rr 5 O ?_;refine OK.loop (G:=Nat) [3,6] (λk=>[(1,.sl<|l.map Entry.cs),(2,bv t),(3,.ptr 3 0),(1003,.box n.cs),(6,.ptr 6 0),(1006,.box [.ZM,.ZM,.ZM,.ZM,bv 0,bv 0,.ZM]),(11,bv k)]) (λk=>k<=R l/\∀x∈l.drop k,t<x.at_) (λk=>k) (R l) ⟨Zq _,F⟩ ⟨O,O,O,O,O,O,O,Zo⟩ (λ_=>O) ?_;rintro k ⟨K,y⟩;refine kO<|OK.join (G:=Bool) [3,6] (λf=>[(1,.sl<|l.map Entry.cs),(2,bv t),(3,.ptr 3 0),(1003,.box n.cs),(6,.ptr 6 0),(1006,.box [.ZM,.ZM,.ZM,.ZM,bv 0,bv 0,.ZM]),(11,bv k),(42,.bool f)]) (λf=>(f=true->0<k)/\(f=false->∀(H:k - 1<R l),0<k->l[k - 1].at_<=t)/\(f=true->∀(H:k - 1<R l),t<l[k - 1].at_)) (λ_=>O) ?_ ?_
 ·refine ro 4 O<|RK.ZS (t:=33) O (λu=>?_) λu=>?_
  ·have a:k - 1<R l:=I
   refine Rr 3 O I<|kc (S.Zi (n:=k - 1) Vy (zg O O) O (zt O) (zt O) I a O) ?_;refine rr 6 O ?_;refine Ab.D.lp ⟨(decide<|l[k - 1].at_>t),(by simp_all<;>omega),O,O,O,O,O,O,O,O,Zo⟩
  refine rr 10 O ?_;refine Ab.D.lp ⟨false,(by simp_all<;>omega),O,O,O,O,O,O,O,O,Zo⟩
 rintro f ⟨o,j,h⟩;refine OK.cond O O (λb=>?_) λb=>?_
 ·have J:=o (by simpa using b);have a:k - 1<R l:=I
  refine Ro 9 O I ?_;refine Ab.D.lp ⟨k - 1,⟨I,λx g=>by rw[np a,show k - 1+1=k by omega]at g;rcases sf.1 g with rfl|g;exact h (by simpa using b) a;exact y x g⟩,I,O,O,O,O,O,O,(OT I),Zo⟩
 have L:=until_at h0 K y (j<|by simpa using b);have q:atT n l t=Xi n (l.take k):=by unfold atT;rw[Zm<|Zp d,L]
 have M:=UP h0 k;refine ro 3 O ?_;refine kV (.c (zL Pn O O O O)<|.c (zm O)<|.c (zm O)<|.c (S.slice (hi:=k) (l':=l.take k) Vy (λ_=>O) .none O (zt O) (.inl ⟨O,O,O⟩) (.inr ⟨_,_,O,(zt O),O⟩) I I<|by rw[aα])<|.c (S.Xo (r_ (n:=n) (l:=l.take k) w<|C.take k) B call32 .none O (zc O<|zc O .nil) O)<|.c (zX O O O)<|.c (zX O O O)<|.c (zS Zk O O O O O O)<|.c (za O) .nil) ?_;refine Ab.D.code<|kT O O Zk O O O ?_;rw[q,d,M]
 try rfl
def ref5_Same0{l:List Ph}(e:∀p∈l,Ct prog 95 [.sl<|p.body.map Ph.cs,.sl<|p.body.map Ph.cs]<|.bool true):Ct prog 95 [.sl<|l.map Ph.cs,.sl<|l.map Ph.cs]<|.bool true:=by
 refine cI func95 O<|OK.XF (rows:=l.map Ph.cs) (t:=0) O O λhlen=>?_;rw[Zx]at hlen;unfold maxLen at hlen;rw[Nh];refine ro 9 O<|kc (zk X1 O)<|jm O<|kc (zk X1 O)<|rr 3 O<|kB O (λa=>?_) λa=>?_
 ·exact absurd rfl a
 refine ro 9 O ?_;refine OK.loop (G:=Nat) [] (λi=>[(0,.sl<|l.map Ph.cx),(1,.sl<|l.map Ph.cx),(5,bv i)]) (λi=>i<=R l) (λi=>R l - i) 0 (Zr _) ⟨O,O,O,Zo⟩ (λ_=>O) ?_;rintro i hi;refine ro 5 O<|kc (zk X1 O)<|rr 3 O<|kB O (λd=>?_) λd=>?_
 ·have b:i<R l:=by omega
  refine ro 5 O ?_;refine kV (.c (zm O)<|.c (zm O)<|.c (zI X1 O I O)<|.c (S.field Gu .none O (zt O) O)<|.c (zV YK O O)<|.c (zm O)<|.c (zm O)<|.c (zI X1 O I O)<|.c (S.field Gu .none O (zt O) O)<|.c (zV YK O O)<|.c (S.neq .none O (zt O)<|zt O)<|.c (zm O)<|.c (S.move (.yes O O O F) O<|zt O)<|.c (S.move (.yes O O O F) O<|zt O)<|.c (S.Zi (n:=i) X1 (.yes O O O F) O (zt O) (zt O) O I O)<|.c (S.field kA (.yes O O O F) O (zt O) O)<|.c (S.Q_ YK (.yes O O O F) O (zt O) O)<|.c (S.move (.yes O O O F) O<|zt O)<|.c (S.move (.yes O O O F) O<|zt O)<|.c (S.Zi (n:=i) X1 (.yes O O O F) O (zt O) (zt O) O I O)<|.c (S.field kA (.yes O O O F) O (zt O) O)<|.c (S.Q_ YK (.yes O O O F) O (zt O) O)<|.c (S.neq (.yes O O O F) O (zt O)<|zt O)<|.c (S.Ug .none O (zt O) (zt O) F)<|.c (zm O)<|.c (S.move (.yes O O O F) O<|zt O)<|.c (S.move (.yes O O O F) O<|zt O)<|.c (S.Zi (n:=i) X1 (.yes O O O F) O (zt O) (zt O) O I O)<|.c (S.field kC (.yes O O O F) O (zt O) O)<|.c (S.Q_ YK (.yes O O O F) O (zt O) O)<|.c (S.move (.yes O O O F) O<|zt O)<|.c (S.move (.yes O O O F) O<|zt O)<|.c (S.Zi (n:=i) X1 (.yes O O O F) O (zt O) (zt O) O I O)<|.c (S.field kC (.yes O O O F) O (zt O) O)<|.c (S.Q_ YK (.yes O O O F) O (zt O) O)<|.c (S.neq (.yes O O O F) O (zt O)<|zt O)<|.c (S.Ug .none O (zt O) (zt O) F)<|.c (zm O)<|.c (S.move (.yes O O O F) O<|zt O)<|.c (S.move (.yes O O O F) O<|zt O)<|.c (S.Zi (n:=i) X1 (.yes O O O F) O (zt O) (zt O) O I O)<|.c (S.field KA (.yes O O O F) O (zt O) O)<|.c (S.Q_ YK (.yes O O O F) O (zt O) O)<|.c (S.move (.yes O O O F) O<|zt O)<|.c (S.move (.yes O O O F) O<|zt O)<|.c (S.Zi (n:=i) X1 (.yes O O O F) O (zt O) (zt O) O I O)<|.c (S.field KA (.yes O O O F) O (zt O) O)<|.c (S.Q_ YK (.yes O O O F) O (zt O) O)<|.c (S.neq (.yes O O O F) O (zt O)<|zt O)<|.c (S.Ug .none O (zt O) (zt O) F)<|.c (zm O)<|.c (S.move (.yes O O O F) O<|zt O)<|.c (S.move (.yes O O O F) O<|zt O)<|.c (S.Zi (n:=i) X1 (.yes O O O F) O (zt O) (zt O) O I O)<|.c (S.field kF (.yes O O O F) O (zt O) O)<|.c (S.Q_ YK (.yes O O O F) O (zt O) O)<|.c (S.move (.yes O O O F) O<|zt O)<|.c (S.move (.yes O O O F) O<|zt O)<|.c (S.Zi (n:=i) X1 (.yes O O O F) O (zt O) (zt O) O I O)<|.c (S.field kF (.yes O O O F) O (zt O) O)<|.c (S.Q_ YK (.yes O O O F) O (zt O) O)<|.c (S.neq (.yes O O O F) O (zt O)<|zt O)<|.c (S.Ug .none O (zt O) (zt O) F)<|.c (zm O)<|.c (S.move (.yes O O O F) O<|zt O)<|.c (S.move (.yes O O O F) O<|zt O)<|.c (S.Zi (n:=i) X1 (.yes O O O F) O (zt O) (zt O) O I O)<|.c (S.field Ak (.yes O O O F) O (zt O) O)<|.c (S.Q_ Mc (.yes O O O F) O (zt O) O)<|.c (S.move (.yes O O O F) O<|zt O)<|.c (S.move (.yes O O O F) O<|zt O)<|.c (S.Zi (n:=i) X1 (.yes O O O F) O (zt O) (zt O) O I O)<|.c (S.field Ak (.yes O O O F) O (zt O) O)<|.c (S.Q_ Mc (.yes O O O F) O (zt O) O)<|.c (S.call (e l[i]<|Zt b) call95 (.yes O O O F) O (zc O<|zc O .nil) O)<|.c (S.not (.yes O O O F) O<|zt O)<|.c (S.Ug .none O (zt O) (zt O) F) .nil) ?_;refine Rd 10 O I<|Ab.D.lp ⟨i+1,I,I,O,O,O,Zo⟩
 refine ro 7 O<|kR O O ?_;rfl
def ref5_Same:∀(d:Nat)(l:List Ph),SizeOf.sizeOf l<d->Ct prog 95 [.sl<|l.map Ph.cs,.sl<|l.map Ph.cs] (.bool true)
 |0,_,h=>absurd h<|bπ _
 |d+1,l,h=>ref5_Same0 λp a=>ref5_Same d p.body (by have:=PhLt a;omega)
def ref10_SameState{s:State}:Ct prog 55 [.agg s.cs,.agg s.cs]<|.bool true:=by
 refine cI func55 O<|OK.Qd 0 0 (s.ZJ.map Rec.cs) O O O λf=>?_;rw[Zx]at f;unfold maxLen at f;refine OK.Qd 0 1 (s.Z5.map XA.cs) O O O λe=>?_
 rw[Zx]at e;unfold maxLen at e;refine OK.Qd 0 2 (s.parts.map Part.cs) O O O λd=>?_
 rw[Zx]at d;unfold maxLen at d;refine ro 12 O<|kc (zk Ap O)<|rr 2 O<|kc (zk Ap O)<|rr 2 O<|RK.ZS (t:=15) O (λl=>?_) λl=>?_
 ·exact absurd rfl l
 refine rr 2 O<|kc (S.OF Gw (zg O O) O<|zt O)<|rr 2 O<|kc (S.OF Gw (zg O O) O<|zt O)<|rr 3 O<|RK.ZS (t:=24) O (λk=>?_) λk=>?_
 ·exact absurd rfl k
 refine rr 2 O<|kc (S.OF V6 (zg O O) O<|zt O)<|rr 2 O<|kc (S.OF V6 (zg O O) O<|zt O)<|rr 3 O<|RK.ZS (t:=33) O (λj=>?_) λj=>?_
 ·exact absurd rfl j
 refine rr 4 O<|kc (S.call (Me (a:=s.Z3) (b:=s.Z3)) call22 (zg O O) O (zc O<|zc O .nil) O)<|kc (S.Xb (zg O O) O<|zt O)<|rr 2 O<|RK.ZS (t:=41) O (λh=>?_) λh=>?_
 ·exact absurd rfl h
 refine rr 4 O<|kc (S.call (ref_SameEnvelope (a:=s.env) (b:=s.env)) call94 (zg O O) O (zc O<|zc O .nil) O)<|kc (S.Xb (zg O O) O<|zt O)<|rr 3 O<|kB O (λo=>?_) λo=>?_
 ·exact absurd rfl o
 refine ro 9 O ?_;refine OK.loop (G:=Nat) [2,3] (λi=>[(2,.ptr 2 0),(1002,.box s.cs),(3,.ptr 3 0),(1003,.box s.cs),(5,bv i)]) (λi=>i<=R s.ZJ) (λi=>R s.ZJ - i) 0 (Zr _) ⟨O,O,O,O,O,Zo⟩ (λ_=>O) ?_;rintro i hi;refine ro 6 O<|kc (zk Ap O)<|rr 3 O<|kB O (λr=>?_) λr=>?_
 ·have g:i<R s.ZJ:=by omega
  refine ro 5 O ?_;refine kV (.c (zf Qn O)<|.c (zl C1 O O O O)<|.c (zm O)<|.c (zI Ap O I O)<|.c (S.field OH .none O (zt O) O)<|.c (S.Vj Ni .none O (zt O) O O)<|.c (zf Qn O)<|.c (zl C1 O O O O)<|.c (zm O)<|.c (zI Ap O I O)<|.c (S.field OH .none O (zt O) O)<|.c (S.Vj Ni .none O (zt O) O O)<|.c (S.pneq (b:=false) [.s [],.i 0] [.s s.ZJ[i].name,.i s.ZJ[i].YD] [.s s.ZJ[i].name,.i s.ZJ[i].YD] ET .none O (zt O) (zt O) O O O O ver_pne)<|.c (zm O)<|.c (S.VN Qn (.yes O O O W) O<|zt O)<|.c (S.YH C1 (.yes O O O W) O (zt O) O O O O)<|.c (S.move (.yes O O O W) O<|zt O)<|.c (S.Zi (n:=i) Ap (.yes O O O W) O (zt O) (zt O) O I O)<|.c (S.field Aj (.yes O O O W) O (zt O) O)<|.c (S.Q_ Mc (.yes O O O W) O (zt O) O)<|.c (S.VN Qn (.yes O O O W) O<|zt O)<|.c (S.YH C1 (.yes O O O W) O (zt O) O O O O)<|.c (S.move (.yes O O O W) O<|zt O)<|.c (S.Zi (n:=i) Ap (.yes O O O W) O (zt O) (zt O) O I O)<|.c (S.field Aj (.yes O O O W) O (zt O) O)<|.c (S.Q_ Mc (.yes O O O W) O (zt O) O)<|.c (S.call (ref5_Same _ s.ZJ[i].phases<|cπ _) call95 (.yes O O O W) O (zc O<|zc O .nil) O)<|.c (S.not (.yes O O O W) O<|zt O)<|.c (S.Ug .none O (zt O) (zt O) W) .nil) ?_;refine Rd 10 O I<|Ab.D.lp ⟨i+1,I,I,O,O,O,O,O,Zo⟩
 refine ro 9 O ?_;refine OK.loop (G:=Nat) [2,3] (λi=>[(2,.ptr 2 0),(1002,.box s.cs),(3,.ptr 3 0),(1003,.box s.cs),(6,bv i)]) (λi=>i<=R s.Z5) (λi=>R s.Z5 - i) 0 (Zr _) ⟨O,O,O,O,O,Zo⟩ (λ_=>O) ?_;rintro i hi;refine ro 6 O<|kc (zk Gw O)<|rr 3 O<|kB O (λq=>?_) λq=>?_
 ·have g:i<R s.Z5:=by omega
  refine ro 5 O<|kV (.c (zf Oa O)<|.c (zl EW O O O O)<|.c (zm O)<|.c (zI Gw O I O)<|.c (S.Vj ti187 .none O (zt O) O O)<|.c (zf Oa O)<|.c (zl EW O O O O)<|.c (zm O)<|.c (zI Gw O I O)<|.c (S.Vj ti187 .none O (zt O) O O)<|.c (S.pneq (b:=false) [.s [],.i 0,.i 0] [.s s.Z5[i].name,.i s.Z5[i].Wb,.i s.Z5[i].ZA] [.s s.Z5[i].name,.i s.Z5[i].Wb,.i s.Z5[i].ZA] eqp187 .none O (zt O) (zt O) O O O O coil_pne) .nil) ?_;refine Rd 10 O I<|Ab.D.lp ⟨i+1,I,I,O,O,O,O,O,Zo⟩
 refine ro 9 O ?_;refine OK.loop (G:=Nat) [2,3] (λi=>[(2,.ptr 2 0),(1002,.box s.cs),(3,.ptr 3 0),(1003,.box s.cs),(7,bv i)]) (λi=>i<=R s.parts) (λi=>R s.parts - i) 0 (Zr _) ⟨O,O,O,O,O,Zo⟩ (λ_=>O) ?_;rintro i hi;refine ro 6 O<|kc (zk V6 O)<|rr 3 O<|kB O (λp=>?_) λp=>?_
 ·have g:i<R s.parts:=by omega
  refine ro 5 O<|kV (.c (zf WC O)<|.c (zl Vg O O O O)<|.c (zm O)<|.c (zI V6 O I O)<|.c (S.Vj L5 .none O (zt O) O O)<|.c (zf WC O)<|.c (zl Vg O O O O)<|.c (zm O)<|.c (zI V6 O I O)<|.c (S.Vj L5 .none O (zt O) O O)<|.c (zK (sF (a:=s.parts[i])) call19 O)<|.c (S.not .none O<|zt O) .nil) ?_;refine Rd 10 O I<|Ab.D.lp ⟨i+1,I,I,O,O,O,O,O,Zo⟩
 refine ro 7 O<|kR O O ?_;rfl
variable{xs:bi}
def u5(h:Shape (.st<|.cons .str<|.cons (.int .i64) .nil) xs):∃p:Ze,xs=p.cs:=by
 obtain⟨a,b,rfl,⟨s,rfl⟩,c,d,rfl,⟨n,rfl⟩,rfl⟩:=h;exact⟨⟨s,n⟩,rfl⟩
def cW(h:Shape (.cons (.sl<|.st<|.cons .str<|.cons (.int .i64) .nil)<|.cons .str<|.cons (.int .i64)<|.cons (.st<|.cons (.int .i64)<|.cons (.int .i64) .nil) .nil) xs):∃p:Net,xs=p.cs:=by
 obtain⟨a,b,rfl,⟨rows,rfl,j⟩,c,d,rfl,⟨s,rfl⟩,e,f,rfl,⟨n,rfl⟩,g,k,rfl,⟨u,v,rfl,⟨lo,rfl⟩,y,z,rfl,⟨hi,rfl⟩,rfl⟩,rfl⟩:=h;obtain⟨l,rfl⟩:=EF (f:=Ze.cs) λr h=>u5<|j r h;exact⟨⟨l,s,n,lo,hi⟩,rfl⟩
def qT(h:Shape (.cons (.int .i64)<|.cons .str<|.cons .str .nil) xs):∃p:Entry,xs=p.cs:=by
 obtain⟨a,b,rfl,⟨n,rfl⟩,c,d,rfl,⟨s,rfl⟩,e,f,rfl,⟨t,rfl⟩,rfl⟩:=h;exact⟨⟨n,s,t⟩,rfl⟩
theorem AB{x:X}(h:Shape (.sl<|.st<|.cons (.int .i64)<|.cons .str<|.cons .str .nil) [x]):∃l:List Entry,x=.sl (l.map Entry.cs):=by
 obtain⟨rows,b,a⟩:=h;cases b;obtain⟨l,rfl⟩:=EF (f:=Entry.cs) λr h=>qT<|a r h;grind
def at_0(h:(Z2 n l).2.2=0)(a:0<=t/\t<=1000000000000):atE n l t=0/\atT n l t=Xi n (untilT l t):=by
 have e:atE n l t=0:=by unfold atE;rw[h,N8,Zz a];rfl
 exact⟨e,Zm<|by rw[e];decide⟩
def z8:∀(l:List Entry)(H:Z6)(i:Nat)(x:Entry),(runT H i<|l++[x]).2.2=0->(runT H i l).2.2=0/\(Za (runT H i l).1 x).2=0/\(runT H i<|l++[x]).1=(Za (runT H i l).1 x).1
 |[],H,i,x,h=>by
  rw[bε,runT]at h⊢;by_cases e:(Za H x).2=0
  ·rw[Zm<|Zp e];exact⟨rfl,e,rfl⟩
  rw[Zn e]at h;exact absurd h e
 |y::l,H,i,x,h=>by
  rw[H5,runT]at h⊢;by_cases e:(Za H y).2=0
  ·rw[Zm<|Zp e]at h⊢;rw[runT,Zm<|Zp e];exact z8 l _ _ x h
  rw[Zn e]at h;exact absurd h e
def Aq(h:(Z2 n l).2.2=0)(hi:i<R l):(Za (Z2 n<|l.take i).1 l[i]).2=0/\(Z2 n<|l.take<|i+1).1=(Za (Z2 n<|l.take i).1 l[i]).1:=by
 have a:=UP h<|i+1;obtain⟨_,_,b⟩:=Ur a;obtain⟨_,_,c⟩:=Ur<|UP h i;rw[b]at a⊢;rw[c];rw[mv hi]at a⊢;exact(z8 _ _ _ _ a).2
