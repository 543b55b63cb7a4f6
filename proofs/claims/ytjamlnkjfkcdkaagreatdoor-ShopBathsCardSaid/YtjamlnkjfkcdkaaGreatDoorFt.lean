/-
  Abstract states: elements of arrays that lie in data.
-/
import Derived.Test.YtjamlnkjfkcdkaaGreatDoorFs
namespace Go.Ab
open Go.RowKit
section
variable {E : Env} {all : Array Oper} {s r r1 r2 r3 rg : St} {d ty : Nat} {pos : String} {after : Array Edge} {guard : Option (Nat × Bool)} {x y z : Operand}
/-- The address of an element of an array that lies in data. -/
theorem S.aindex {t e sz m i : Nat} {j : Int} {us us' : List X} (hs : E.P.underlying t = some (.array m e)) (hsz2 : ∀ w, (sizeOf e).run E.P w = .ok sz w) (hg : Gd all s guard rg) (hd : (Nat.blt d 1000 && Nat.blt d E.nt) = true) (hx : OpS s x (.eptr us) r1)
    (hy : OpS s y (.int .i64 j) r2) (hj : j = i) (hi : i < m) (hu : us.drop (i * sz) = us') : St1 E all ⟨some d, .indexAddr t x y, ty, pos, after, guard⟩ s (rg ++ (r1 ++ r2)) [(d, .eptr us')] [] :=
  St1.val hg hd rfl (hx.looks.app hy.looks) fun c A w hh hr => by
    subst hj
    subst hu
    obtain ⟨b, off, vs, hv, hl, h1, h2⟩ := eptr_of (hx.rep (c := c) (a := A) (w := w) fun p hp => hr p (by simp [hp]))
    obtain ⟨hw, _⟩ := int_of (hy.rep (c := c) (a := A) (w := w) fun p hp => hr p (by simp [hp]))
    refine ⟨.pointer (some ⟨b, off + i * sz, none⟩), ?_, .eptr _ b (off + i * sz) (vs.drop (i * sz)) (by simp [hl]) ?_ ?_⟩
    · simp [execOp, hv, hw, Instr.indexAt, asIntOf, run_underlying hs, hsz2, add_off, Instr.sureAddr]
      intro h2
      omega
    · intro i v hv; rw [List.getElem?_drop] at hv; rw [Nat.add_assoc]; exact h1 _ _ hv
    · intro i x v hx hv; rw [List.getElem?_drop] at hx hv; exact h2 _ _ _ hx hv
end
theorem OK.skipQ {E : Env} {U : List Nat} {s : St} {Q : Exit → List Nat → St → Prop} (h : Q .normal U s) : OK E .skip Q U s := fun _ _ hg => wpIn_skip ⟨U, s, hg, h⟩
end Go.Ab
