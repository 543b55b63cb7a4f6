import Derived.Test.YtkkbjdenehfpaaaGreatDoorShN
import Derived.Test.YtkkbjdenehfpaaaGreatDoorWaN
set_option linter.all false
namespace Go.Proofs.Z_
open Go.Ab Tryz
set_option maxRecDepth 9999
def Oi{l:bd}(qk:l.length<=100000):Ct prog 62 [.sl<|l.map λn=>[bv n]]<|.sl<|l.map λn=>[bv n]:=by
 refine cI func62 O<|kr<|kc (S.assign .none O .Ya)<|rr 4 O<|RK.c (zM [] Xr O O O O)<|jm O ?_;refine RK.c (S.V2 Xr .none O (zt O) O N (zt O) (by intro q a;obtain⟨b,_,rfl⟩:=rx.1 a;rfl) O (by simp only[Zx];omega)<|by simp only[maxLen,Zx];omega) ?_;refine rr 3 O ?_;refine OK.ret<|Y3.r1 (.tmp O O (.c (.own O O N) O) O) ?_;rfl
def Ym{p:Zf}(qk:p.ZY.length<=100000):Ct prog 20 [.agg p.cs]<|.agg p.cs:=by
 refine cI func20 O<|ro 7 O ?_;refine kV (.c (zM [] Qf O O O O)<|.c (zf Gy O)<|.c (zl wQ O O O O)<|.c (S.V2 Qf .none O (zt O) O N (zt O) (by intro q a;obtain⟨b,_,rfl⟩:=rx.1 a;rfl) O (by simp only[Zx];omega)<|by simp only[maxLen,Zx];omega)<|.c (zf rT O)<|.c (zl YK O O O O)<|.c (zU gz O O)<|.c (zS Nb O O O O O O) .nil) ?_;refine Ab.D.code ?_;refine OK.ret<|Y3.r1 (.XU O O O O Nb O<|.k (.own O O N)<|.k (.same O) .z) ?_;rfl
def Ac:De prog 38:=⟨λblk qc vz a w d c b=>slices_Sort_int blk qc vz a w d c b,λp vz w=>slices_Sort_int_none p vz w⟩
def M_(zs:bd):(zs.mergeSort λx y=>decide<|x<=y).length=zs.length:=by simp
