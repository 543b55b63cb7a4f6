import Derived.WalkKit
universe u
set_option linter.all false
namespace Go.Ab
variable{p:Prop}
def Zz[inst:Decidable p]:p->decide p=true:=decide_eq_true
def Zy[inst:Decidable p]:¬p->decide p=false:=decide_eq_false
variable{α:Type}
theorem Zx{β:Type}{a:List α}(f:α->β):(a.map f).length=a.length:=List.length_map f
def Zw(a b:Bool):((a&&b)=true)=(a=true/\b=true):=Bool.and_eq_true a b
def Zv{l:List α}{i:Nat}(h:i<l.length):l[i]?=some l[i]:=List.getElem?_eq_getElem h
def Zu[inst:Decidable p]:¬¬p↔p:=Decidable.not_not
def Zt{l:List α}{n:Nat}(h:n<l.length):l[n]∈l:=List.getElem_mem h
def Zs{a bs:List α}:(a++bs).length=a.length+bs.length:=List.length_append
def Zr(n:Nat):0<=n:=Nat.zero_le n
def Zq(n:Nat):n<=n:=Nat.le_refl n
def Zp(h:p):¬¬p:=not_not_intro h
def Zo:True:=trivial
def Zn{c:Prop}{h:Decidable c}(a:c){α:Sort u}{t e:α}:ite c t e=t:=if_pos a
def Zm{c:Prop}{h:Decidable c}(a:¬c){α:Sort u}{t e:α}:ite c t e=e:=if_neg a
def mn:=@IntWalk.i64_in
def pf:=@of_decide_eq_true
def mr:=@List.mem_of_getElem?
def mv:=@List.take_succ_eq_append_getElem
def ne:=@List.map_append
def da:=@List.drop_length
def np:=@List.drop_eq_getElem_cons
def rn:=@congrArg
def pi:=@List.mem_singleton
def rp:=@Nat.lt_of_lt_of_le
def rb:=@Nat.blt_eq
def rl:=@List.mem_cons_of_mem
def rx:=@List.mem_map
def rm:=@List.all_eq_true
def rv:=@List.mem_cons_self
def sk:=@Option.isSome_iff_exists
def de:=@decide_eq_true_eq
def sb:=@List.mem_append_left
def sT:=@List.getElem?_eq_some_iff
def sg:=@List.take_of_length_le
def sa:=@Array.getElem?_eq_some_iff
def sf:=@List.mem_cons
def tt:=@List.length_cons
def sc:=@List.length_take
def tn:=@Bool.true_and
def ta:=@List.map_cons
def ti:=@Bool.or_eq_true
def so:=@List.all_cons
def tl:=@List.contains_iff_mem
def tp:=@Bool.false_and
def ui:=@List.mem_append_right
def dp:=@List.getElem?_map
def tz:=@List.eq_nil_of_length_eq_zero
def m6:=@List.getElem?_append_left
def ul:=@decide_eq_false_iff_not
def di:=@Nat.le_trans
def vd:=@List.length_drop
def dl:=@List.getElem_of_mem
def dv:=@Bool.and_eq_true
def wa:=@Bool.or_eq_false_iff
def wc:=@Nat.zero_add
def a6:=@of_decide_eq_false
def i8:=@List.append_nil
def a7:=@List.take_append_drop
def wi:=@List.length_set
def Kp:=@List.getElem_cons_zero
def ky:=@Nat.ble_eq
def zd:=@Bool.not_eq_true'
def aγ:=@Option.some.inj
def aυ:=@List.length_nil
def a8:=@Bool.and_eq_false_iff
def ut:=@List.drop_of_length_le
def H5:=@List.cons_append
def m7:=@List.append_assoc
def m8:=@Nat.mul_le_mul_right
def m9:=@List.getElem?_drop
def aμ:=@List.length_modify
def v6:=@List.cons.injEq
def bπ:=@Nat.not_lt_zero
def ae:=@List.map_map
def H0:=@List.getElem?_take
def H2:=@List.map_nil
def R0:=@List.length_singleton
def P1:=@List.flatten_cons
def P2:=@List.ext_getElem?
def H3:=@Nat.add_sub_cancel_left
def aκ:=@List.getElem?_append_right
def w7:=@Nat.lt_or_ge
def H4:=@List.not_mem_nil
def M2:=@Option.map_eq_some_iff
def aν:=@Decidable.byContradiction
def aε:=@List.take_append_of_le_length
def aδ:=@List.singleton_append
def bε:=@List.nil_append
def ce:=@Bool.or_false
def aβ:=@List.map_congr_left
def aζ:=@decide_eq_true_iff
def bν:=@IntWalk.u8_in
def aα:=@List.drop_zero
def cδ:=@Bool.eq_iff_iff
def bα:=@List.map_eq_nil_iff
def aη:=@List.length_pos_iff
def aθ:=@Nat.succ_pos
def aι:=@List.getElem_cons_succ
def bφ:=@Option.bind_some
def bξ:=@Bool.false_eq_true
def cσ:=@List.length_filter_le
def aξ:=@List.mem_or_eq_of_mem_set
def aπ:=@List.pairwise_iff_getElem
def aρ:=@Nat.add_mul
def aσ:=@Nat.beq_refl
def aτ:=@List.foldl_cons
def cφ:=@Option.map_some
def aφ:=@Nat.pow_le_pow_right
def eI:=@List.mem_filter
def aχ:=@List.getElem?_set
def aψ:=@Prod.mk.injEq
def aω:=@List.flatten_append
def bμ:=@List.mergeSort_perm
def dτ:=@List.any_eq_true
def bβ:=@List.pairwise_cons
def bγ:=@Nat.add_zero
def bδ:=@Int.tmod_lt_of_pos
def cε:=@List.range_succ
def bζ:=@List.getElem?_eq_none
def bη:=@Int.tmod_nonneg
def bθ:=@Option.some.injEq
def bι:=@Bool.eq_false_iff
def dρ:=@Option.isNone_iff_eq_none
def bυ:=@Bool.and_false
def cξ:=@List.take_append
def bκ:=@List.getElem_map
def dζ:=@Int.toNat_of_nonneg
def bρ:=@Nat.succ_mul
def bσ:=@List.length_replicate
def bτ:=@List.map_set
def dδ:=@Nat.sub_self
def eK:=@List.filter_cons
def bχ:=@List.range'_succ
def bψ:=@List.map_toArray
def bω:=@List.getElem?_of_mem
def cα:=@World.cell?_of_block
def cβ:=@Nat.one_mul
def cγ:=@List.flatMap_append
def eQ:=@Int.natCast_nonneg
def cζ:=@Int.zero_mul
def ed:=@Int.add_zero
def cη:=@Int.mul_nonneg
def ek:=@List.mem_range
def cθ:=@List.getElem?_replicate
def eα:=@List.pairwise_mergeSort
def cκ:=@World.ownsRow_nil
def cμ:=@Nat.le_mul_of_pos_left
def cν:=@Bool.and_true
def cρ:=@Array.getElem?_toList
def cτ:=@List.eq_nil_iff_forall_not_mem
def cυ:=@Bool.true_or
def cχ:=@Int.mul_comm
def cω:=@UInt8.toNat_inj
def dα:=@List.count_le_length
def dβ:=@List.mem_of_mem_drop
def dT:=@List.getElem?_modify
def dε:=@Int.mul_le_mul_of_nonneg_left
def ra:=@List.take_take
def dη:=@List.countP_append
def dθ:=@Nat.eq_zero_or_pos
def dι:=@List.map_singleton
def ai:=@Bool.false_or
def dν:=@List.size_toArray
def co:=@List.pairwise_map
def dξ:=@List.getElem_take
def dπ:=@Classical.byContradiction
def dσ:=@List.drop_append
def dυ:=@List.eq_of_mem_replicate
def dφ:=@Nat.le_of_not_lt
def dχ:=@List.all_nil
def cπ:=@Nat.lt_succ_self
def ax:=@Bool.or_true
def dψ:=@Nat.le_mul_of_pos_right
def dω:=@Option.bind_eq_some_iff
def cι:=@List.length_eq_zero_iff
def pA:=@List.filter_map
def eβ:=@List.find?_cons
def fa:=@Nat.min_eq_left
def fb:=@List.any_append
def eγ:=@Int.add_mul
def eδ:=@Int.mul_pos
def fe:=@List.filter_eq_nil_iff
def eε:=@List.drop_drop
def eζ:=@Array.getElem?_append
def eη:=@not_or
def eθ:=@List.drop_take
def eι:=@UInt8.toNat_lt
def eκ:=@List.countP_eq_length
def eμ:=@Nat.not_le
def dγ:=@List.mem_iff_getElem
def eξ:=@List.replicate_succ'
def nz:=@List.any_cons
def fg:=@List.take_succ_cons
def fj:=@Bool.not_not
def eυ:=@List.set_set
def ft:=@Nat.le_of_lt
abbrev ba:=List UInt8
abbrev bc:=List Nat
abbrev bd:=List Int
variable{P:Prop}
def I(h:P:=by omega):P:=h
def N(h:P:=by first|rfl|simp<;>omega):P:=h
def C(h:P:=by decide):P:=h
def V(h:P:=by kernel_rfl):P:=h
def F(h:P:=by simp):P:=h
def W(h:P:=by first|rfl|exact decide_eq_true (by assumption)|exact decide_eq_false (by assumption)|simp[*]):P:=h
def Z(h:P:=by intro h;cases h):P:=h
