import Derived.WalkKit
universe u
set_option linter.all false
namespace Go.Ab
variable{p:Prop}
def Zz[inst:Decidable p]:p->decide p=true:=decide_eq_true
def Zy[inst:Decidable p]:¬p->decide p=false:=decide_eq_false
variable{α:Type}
theorem Zx{β:Type}{a:List α}(f:α->β):(a.map f).length=a.length:=List.length_map f
def Zw(a b:Bool):((a&&b)=true)=(a=true/\b=true):=Bool.and_eq_true a b
def Zv{l:List α}{i:Nat}(h:i<l.length):l[i]?=some l[i]:=List.getElem?_eq_getElem h
def Zu[inst:Decidable p]:¬¬p↔p:=Decidable.not_not
def Zt{l:List α}{n:Nat}(h:n<l.length):l[n]∈l:=List.getElem_mem h
def Zs{a bs:List α}:(a++bs).length=a.length+bs.length:=List.length_append
def Zr(n:Nat):0<=n:=Nat.zero_le n
def Zq(n:Nat):n<=n:=Nat.le_refl n
def Zp(h:p):¬¬p:=not_not_intro h
def Zo:True:=trivial
def Zn{c:Prop}{h:Decidable c}(a:c){α:Sort u}{t e:α}:ite c t e=t:=if_pos a
def Zm{c:Prop}{h:Decidable c}(a:¬c){α:Sort u}{t e:α}:ite c t e=e:=if_neg a
def mn:=@IntWalk.i64_in
def mr:=@List.mem_of_getElem?
def ne:=@List.map_append
def mv:=@List.take_succ_eq_append_getElem
def da:=@List.drop_length
def pf:=@of_decide_eq_true
def np:=@List.drop_eq_getElem_cons
def rp:=@Nat.lt_of_lt_of_le
def rv:=@List.mem_cons_self
def pi:=@List.mem_singleton
def rl:=@List.mem_cons_of_mem
def rb:=@Nat.blt_eq
def rx:=@List.mem_map
def bj:=@List.all_eq_true
def rn:=@congrArg
def sc:=@List.length_take
def sk:=@Option.isSome_iff_exists
def sf:=@List.mem_cons
def ae:=@List.getElem?_eq_some_iff
def sa:=@Array.getElem?_eq_some_iff
def sb:=@List.mem_append_left
def sg:=@List.take_of_length_le
def de:=@decide_eq_true_eq
def tt:=@List.length_cons
def so:=@List.all_cons
def ta:=@List.map_cons
def ti:=@Bool.or_eq_true
def tl:=@List.contains_iff_mem
def dl:=@List.getElem_of_mem
def ul:=@decide_eq_false_iff_not
def tn:=@Bool.true_and
def tp:=@Bool.false_and
def wc:=@Nat.zero_add
def tz:=@List.eq_nil_of_length_eq_zero
def ui:=@List.mem_append_right
def vd:=@List.length_drop
def m6:=@List.getElem?_append_left
def di:=@Nat.le_trans
def Kp:=@List.getElem_cons_zero
def ut:=@List.drop_of_length_le
def dp:=@List.getElem?_map
def dv:=@Bool.and_eq_true
def wa:=@Bool.or_eq_false_iff
def zd:=@Bool.not_eq_true'
def a7:=@List.take_append_drop
def wi:=@List.length_set
def ky:=@Nat.ble_eq
def aγ:=@Option.some.inj
def dg:=@of_decide_eq_false
def a8:=@Bool.and_eq_false_iff
def m8:=@Nat.mul_le_mul_right
def i8:=@List.append_nil
def H5:=@List.cons_append
def m7:=@List.append_assoc
def m9:=@List.getElem?_drop
def aβ:=@List.map_congr_left
def fw:=@List.map_map
def H0:=@List.getElem?_take
def aμ:=@List.length_modify
def aα:=@List.drop_zero
def w7:=@Nat.lt_or_ge
def H2:=@List.map_nil
def H4:=@List.not_mem_nil
def R0:=@List.length_singleton
def H3:=@Nat.add_sub_cancel_left
def aκ:=@List.getElem?_append_right
def v6:=@List.cons.injEq
def M2:=@Option.map_eq_some_iff
def aι:=@List.getElem_cons_succ
def aε:=@List.take_append_of_le_length
def eτ:=@List.length_reverse
def P1:=@List.flatten_cons
def P2:=@List.ext_getElem?
def bμ:=@List.mergeSort_perm
def aδ:=@List.singleton_append
def aζ:=@decide_eq_true_iff
def aρ:=@Nat.add_mul
def aη:=@List.length_pos_iff
def bγ:=@Nat.add_zero
def aθ:=@Nat.succ_pos
def aν:=@Decidable.byContradiction
def aξ:=@List.mem_or_eq_of_mem_set
def aσ:=@Nat.beq_refl
def bε:=@List.nil_append
def aτ:=@List.foldl_cons
def aυ:=@List.length_nil
def aφ:=@Nat.pow_le_pow_right
def aχ:=@List.getElem?_set
def aω:=@List.flatten_append
def bα:=@List.map_eq_nil_iff
def bκ:=@List.getElem_map
def bβ:=@List.pairwise_cons
def bδ:=@Int.tmod_lt_of_pos
def cφ:=@Option.map_some
def bζ:=@List.getElem?_eq_none
def bη:=@Int.tmod_nonneg
def aψ:=@Prod.mk.injEq
def bθ:=@Option.some.injEq
def bι:=@Bool.eq_false_iff
def aπ:=@List.pairwise_iff_getElem
def dρ:=@Option.isNone_iff_eq_none
def bν:=@IntWalk.u8_in
def bξ:=@Bool.false_eq_true
def bπ:=@Nat.not_lt_zero
def cβ:=@Nat.one_mul
def bρ:=@Nat.succ_mul
def bσ:=@List.length_replicate
def bτ:=@List.map_set
def dδ:=@Nat.sub_self
def bυ:=@Bool.and_false
def bφ:=@Option.bind_some
def bχ:=@List.range'_succ
def bψ:=@List.map_toArray
def bω:=@List.getElem?_of_mem
def dτ:=@List.any_eq_true
def cα:=@World.cell?_of_block
def dγ:=@List.mem_iff_getElem
def cγ:=@List.flatMap_append
def dπ:=@Classical.byContradiction
def cδ:=@Bool.eq_iff_iff
def cε:=@List.range_succ
def dθ:=@Nat.eq_zero_or_pos
def cζ:=@Int.zero_mul
def cη:=@Int.mul_nonneg
def cθ:=@List.getElem?_replicate
def cι:=@List.length_eq_zero_iff
def eα:=@List.pairwise_mergeSort
def cκ:=@World.ownsRow_nil
def dξ:=@List.getElem_take
def cμ:=@Nat.le_mul_of_pos_left
def cν:=@Bool.and_true
def cξ:=@List.take_append
def ai:=@List.mem_flatten
def cπ:=@Nat.lt_succ_self
def cf:=@List.mem_reverse
def cρ:=@Array.getElem?_toList
def cτ:=@List.eq_nil_iff_forall_not_mem
def cυ:=@Bool.true_or
def cχ:=@Int.mul_comm
def cψ:=@List.all_append
def cω:=@UInt8.toNat_inj
def dα:=@List.count_le_length
def dβ:=@List.mem_of_mem_drop
def dε:=@Int.mul_le_mul_of_nonneg_left
def dζ:=@Int.toNat_of_nonneg
def dη:=@List.countP_append
def dι:=@List.map_singleton
def pv:=@List.getD_eq_getElem?_getD
def dν:=@List.size_toArray
def dT:=@Nat.lt_trichotomy
def dσ:=@List.drop_append
def dυ:=@List.eq_of_mem_replicate
def dφ:=@Nat.le_of_not_lt
def dχ:=@List.all_nil
def eI:=@Nat.lt_succ_iff_lt_or_eq
def dψ:=@Nat.le_mul_of_pos_right
def dω:=@Option.bind_eq_some_iff
def eβ:=@List.find?_cons
def eγ:=@Int.add_mul
def eδ:=@Int.mul_pos
def eε:=@List.drop_drop
def eζ:=@Array.getElem?_append
def eη:=@not_or
def eθ:=@List.drop_take
def ra:=@List.take_take
def eκ:=@List.countP_eq_length
def cσ:=@List.length_filter_le
def eμ:=@Nat.not_le
def eν:=@List.mem_of_mem_take
def eξ:=@List.replicate_succ'
def ei:=@List.getElem?_modify
def ek:=@Nat.sub_zero
def eυ:=@List.set_set
abbrev ba:=List UInt8
abbrev bc:=List Nat
abbrev bd:=List Int
variable{P:Prop}
def I(h:P:=by omega):P:=h
def N(h:P:=by first|rfl|simp<;>omega):P:=h
def C(h:P:=by decide):P:=h
def V(h:P:=by kernel_rfl):P:=h
def F(h:P:=by simp):P:=h
def W(h:P:=by first|rfl|exact decide_eq_true (by assumption)|exact decide_eq_false (by assumption)|simp[*]):P:=h
def Z(h:P:=by intro h;cases h):P:=h
