/-
  Abstract states: a closure over three or four; sets of strings as maps.
-/
import Derived.Test.YtjamlnkjfkcdkaaGreatDoorGd
namespace Go.Ab
open Go.RowKit
theorem lkI {a b : Int} (h : a = b) : some (X.int .i64 a) = some (X.int .i64 b) := by rw [h]
theorem lkB {a b : Bool} (h : a = b) : some (X.bool a) = some (X.bool b) := by rw [h]
section
variable {E : Env} {all : Array Oper} {s r r1 r2 r3 r4 rg : St} {d ty : Nat} {pos : String} {after : Array Edge} {guard : Option (Nat × Bool)} {x y z t : Operand}
theorem S.makeFunc3 {f : Nat} {u u' u'' : X} (hg : Gd all s guard rg) (hd : (Nat.blt d 1000 && Nat.blt d E.nt) = true) (hx : OpS s x u r1) (hy : OpS s y u' r2) (hz : OpS s z u'' r3)
    (hu : notCell u = false) (hu' : notCell u' = false) (hu'' : notCell u'' = false) :
    St1 E all ⟨some d, .makeFunc (.func f) #[] #[x, y, z], ty, pos, after, guard⟩ s (rg ++ (r1 ++ (r2 ++ r3))) [(d, .fn f [u, u', u''])] [] :=
  St1.val hg hd rfl (hx.looks.app (hy.looks.app hz.looks)) fun c A w _ hr => ⟨.func (.func f) #[] #[A.eval x, A.eval y, A.eval z], by simp [execOp, Instr.makeFunc], [A.eval x, A.eval y, A.eval z], rfl, capC (hx.rep fun p hp => hr p (by simp [hp])) hu, capC (hy.rep fun p hp => hr p (by simp [hp])) hu', capC (hz.rep fun p hp => hr p (by simp [hp])) hu'', trivial⟩
def setX (keys : List (List UInt8)) : List (X × X) := keys.map fun s => (.str s, .agg [])
theorem setX_mapX (keys : List (List UInt8)) : setX keys = mapX (keys.map fun s => (s, .agg [])) := by simp [setX, mapX]
theorem lookL_set {α : Type} (a : α) (k : List UInt8) : ∀ keys : List (List UInt8), lookL (keys.map fun s => (s, a)) k = if k ∈ keys then some a else none
  | [] => rfl
  | s :: keys => by
    simp only [List.map_cons, lookL]
    by_cases h : s = k
    · simp [h]
    · rw [if_neg h, lookL_set a k keys]
      simp [List.mem_cons, Ne.symm h]
theorem putL_set {α : Type} (a : α) (k : List UInt8) : ∀ keys : List (List UInt8), k ∉ keys → putL (keys.map fun s => (s, a)) k a = (keys ++ [k]).map fun s => (s, a)
  | [], _ => rfl
  | s :: keys, h => by
    simp only [List.mem_cons, not_or] at h
    simp only [List.map_cons, putL, List.cons_append]
    rw [if_neg (Ne.symm h.1), putL_set a k keys h.2]
theorem S.lookupSet {t kt e k : Nat} {key : List UInt8} {keys : List (List UInt8)} {es : List (X × X)} {zv : Value} (ht : E.P.underlying t = some (.map kt e)) (hk : E.P.underlying kt = some .string) (hz : ∀ w, (zeroValue e).run E.P w = .ok zv w) (hzx : ∀ c, RepV c (.agg []) zv) (hg : Gd all s guard rg) (hd : (Nat.blt d 1000 && Nat.blt d E.nt) = true)
    (hx : OpS s x (.mptr k) r1) (hy : OpS s y (.str key) r2) (hl : look s (1000 + k) = some (.omap es)) (hes : es = setX keys) (hk1 : Nat.blt k 1000 = true := by rfl) :
    St1 E all ⟨some d, .lookup t x y true, ty, pos, after, guard⟩ s (rg ++ (r1 ++ (r2 ++ [(1000 + k, .omap es)]))) [(d, .tup [.agg [], .bool (decide (key ∈ keys))])] [] := by
  have h := S.lookupO (pos := pos) (after := after) (ty := ty) (l := keys.map fun s => (s, X.agg [])) (zx := .agg []) ht hk hz hzx hg hd hx hy hl (hes.trans (setX_mapX keys)) hk1
  rw [lookL_set] at h
  by_cases hm : key ∈ keys
  · rw [if_pos hm] at h
    rw [decide_eq_true hm]
    exact h
  · rw [if_neg hm] at h
    rw [decide_eq_false hm]
    exact h
theorem S.setAdd {t kt e k : Nat} {key : List UInt8} {keys : List (List UInt8)} {es : List (X × X)} (ht : E.P.underlying t = some (.map kt e)) (hk : E.P.underlying kt = some .string) (hg : Gd all s guard rg)
    (hx : OpS s x (.mptr k) r1) (hy : OpS s y (.str key) r2) (hz : OpS s z (.agg []) r3) (hl : look s (1000 + k) = some (.omap es)) (hes : es = setX keys) (hn : key ∉ keys) (hk1 : Nat.blt k 1000 = true := by rfl) :
    St1 E all ⟨none, .mapUpdate t x y z, ty, pos, after, guard⟩ s (rg ++ (r1 ++ (r2 ++ (r3 ++ [(1000 + k, .omap es)])))) [(1000 + k, .omap (setX (keys ++ [key])))] [] :=
  S.mapSetO (l := keys.map fun s => (s, X.agg [])) ht hk hg hx hy hz rfl hl (hes.trans (setX_mapX keys)) (by rw [putL_set _ _ _ hn, ← setX_mapX]) hk1
end
end Go.Ab
