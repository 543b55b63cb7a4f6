/-
  Abstract states: the rules for code (sequence, branch, block, loop, return), how a function's contract is proved, and the frame of a step.
-/
import Derived.Test.YtjamlnkjfkcdkaaGreatDoorFb
namespace Go.Ab
open Go.RowKit

/-! ### weakening -/
def okP (U : List Nat) : X → Bool
  | .ptr k _ => U.contains k
  | .own k _ => U.contains k
  | .optr k _ _ => U.contains k
  | .mptr k => U.contains k
  | .ownp k _ _ _ _ => U.contains k
  | _ => true
def okC (U : List Nat) : X → Bool
  | .fn _ caps => caps.all (okP U)
  | x => okP U x
def okV (U : List Nat) : X → Bool
  | .agg xs => xs.all (okC U)
  | x => okC U x
def okT (U : List Nat) : X → Bool
  | .tup xs => xs.all (okV U)
  | x => okV U x
def okKey (U : List Nat) (p : Nat × X) : Bool :=
  if Nat.blt p.1 1000 then okT U p.2
  else match p.2 with
    | .any => true
    | .box cells => (U.any fun k => Nat.beq (1000 + k) p.1) && cells.all (okC U)
    | .arr _ _ => U.any fun k => Nat.beq (2000 + k) p.1
    | .arrn _ _ mid _ => (U.any fun k => Nat.beq (2000 + k) p.1) && mid.all (okC U)
    | .omap _ => U.any fun k => Nat.beq (1000 + k) p.1
    | .resb k _ => U.contains k
    | _ => true
theorem okU {U : List Nat} {off key : Nat} (h : (U.any fun k => Nat.beq (off + k) key) = true) : U.contains (key - off) = true := by
  obtain ⟨k, hk, e⟩ := List.any_eq_true.1 h
  have := Nat.eq_of_beq_eq_true e
  have e2 : key - off = k := by omega
  rw [e2]
  exact List.contains_iff_mem.2 hk
def Ctx.cut (c : Ctx) (U : List Nat) : Ctx := ⟨c.h, fun k => if U.contains k then c.loc k else none, fun k => if U.contains k then c.arr k else none, c.Y⟩

theorem RepP.cut {c : Ctx} {U : List Nat} {x : X} {v : Value} (h : RepP c x v) (ho : okP U x = true) : RepP (c.cut U) x v := by
  cases x
  case ptr k off => obtain ⟨b, h1, h2⟩ := h; exact ⟨b, by simp only [okP] at ho; simp only [Ctx.cut, ho, if_true]; exact h1, h2⟩
  case own k n => obtain ⟨h0, m, hv, lv, h1, h2⟩ := h; exact ⟨h0, m, hv, lv, by simp only [okP] at ho; simp only [Ctx.cut, ho, if_true]; exact h1, h2⟩
  case optr k n off => obtain ⟨m, hv, lv, h1, h2⟩ := h; exact ⟨m, hv, lv, by simp only [okP] at ho; simp only [Ctx.cut, ho, if_true]; exact h1, h2⟩
  case mptr k => obtain ⟨b, h1, h2⟩ := h; exact ⟨b, by simp only [okP] at ho; simp only [Ctx.cut, ho, if_true]; exact h1, h2⟩
  case ownp k n sz lo hi => obtain ⟨h0, m, hv, lv, h1, h2⟩ := h; exact ⟨h0, m, hv, lv, by simp only [okP] at ho; simp only [Ctx.cut, ho, if_true]; exact h1, h2⟩
  all_goals exact h
theorem All2.cut {R R' : X → Value → Prop} {ok : X → Bool} (hr : ∀ x v, R x v → ok x = true → R' x v) : ∀ {xs : List X} {vs : List Value}, All2 R xs vs → xs.all ok = true → All2 R' xs vs
  | [], [], _, _ => trivial
  | _ :: _, _ :: _, h, ho => by simp only [List.all_cons, Bool.and_eq_true] at ho; exact ⟨hr _ _ h.1 ho.1, All2.cut hr h.2 ho.2⟩
  | [], _ :: _, h, _ => h.elim
  | _ :: _, [], h, _ => h.elim
theorem RepC.cut {c : Ctx} {U : List Nat} {x : X} {v : Value} (h : RepC c x v) (ho : okC U x = true) : RepC (c.cut U) x v := by
  cases x
  case fn f caps => obtain ⟨vs, h1, h2⟩ := h; exact ⟨vs, h1, All2.cut (R' := RepP (c.cut U)) (ok := okP U) (fun _ _ h ho => RepP.cut h ho) h2 ho⟩
  all_goals (simp only [RepC, okC] at h ho ⊢; exact RepP.cut h ho)
theorem RepV.cut {c : Ctx} {U : List Nat} {x : X} {v : Value} (h : RepV c x v) (ho : okV U x = true) : RepV (c.cut U) x v := by
  cases x
  case agg xs => obtain ⟨vs, h1, h2⟩ := h; exact ⟨vs, h1, All2.cut (R' := RepC (c.cut U)) (ok := okC U) (fun _ _ h ho => RepC.cut h ho) h2 ho⟩
  all_goals (simp only [RepV, okV] at h ho ⊢; exact RepC.cut h ho)
theorem RepT.cut {c : Ctx} {U : List Nat} {x : X} {v : Value} (h : RepT c x v) (ho : okT U x = true) : RepT (c.cut U) x v := by
  cases x
  case tup xs => obtain ⟨vs, h1, h2⟩ := h; exact ⟨vs, h1, All2.cut (R' := RepV (c.cut U)) (ok := okV U) (fun _ _ h ho => RepV.cut h ho) h2 ho⟩
  all_goals (simp only [RepT, okT] at h ho ⊢; exact RepV.cut h ho)
theorem Holds.cut {c : Ctx} {U : List Nat} {a : Act} {w : World} {key : Nat} {x : X} (h : Holds c a w key x) (ho : okKey U (key, x) = true) : Holds (c.cut U) a w key x := by
  unfold Holds at *
  unfold okKey at ho
  split at h
  · rename_i hk
    rw [if_pos hk]
    rw [if_pos (by rw [Nat.blt_eq]; exact hk)] at ho
    exact h.cut ho
  · rename_i hk
    rw [if_neg hk]
    rw [if_neg (by rw [Nat.blt_eq]; exact hk)] at ho
    refine or_snd h fun h => ?_
    split at h
    · rename_i hk2
      rw [if_pos hk2]
      obtain ⟨b, o, h1, h2, h3⟩ := h
      cases x
      case box cells =>
        obtain ⟨T, vs, h4, h5⟩ := h3
        simp only [Bool.and_eq_true] at ho
        exact ⟨b, o, by simp only [Ctx.cut, okU ho.1, if_true]; exact h1, h2, T, vs, h4, All2.cut (R' := RepC (c.cut U)) (ok := okC U) (fun _ _ h ho => RepC.cut h ho) h5 ho.2⟩
      case omap es =>
        simp only at ho
        exact ⟨b, o, by simp only [Ctx.cut, okU ho, if_true]; exact h1, h2, h3⟩
      all_goals exact h3.elim
    · rename_i hk2
      rw [if_neg hk2]
      split at h
      · rename_i hk3
        rw [if_pos hk3]
        obtain ⟨sz, rows, hv, e, vs, hx, h1, h2⟩ := h
        cases x
        case arr sz' rows' => exact ⟨sz, rows, hv, e, vs, hx, by simp only at ho; simp only [Ctx.cut, okU ho, if_true]; exact h1, h2⟩
        case arrn sz' pre mid post =>
          obtain ⟨q1, q2, v1, v2, v3, q3, q4, q5, q6⟩ := hx
          simp only [Bool.and_eq_true] at ho
          exact ⟨sz, rows, hv, e, vs, ⟨q1, q2, v1, v2, v3, q3, q4, All2.cut (R' := RepC (c.cut U)) (ok := okC U) (fun _ _ h ho => RepC.cut h ho) q5 ho.2, q6⟩, by simp only [Ctx.cut, okU ho.1, if_true]; exact h1, h2⟩
        all_goals exact hx.elim
      · rename_i hk3
        rw [if_neg hk3]
        obtain ⟨hk0, J, hx0, h5⟩ := h
        refine ⟨hk0, J, ?_, h5⟩
        cases x
        case resb k Jb =>
          obtain ⟨b, q1, q2⟩ := hx0
          simp only at ho
          exact ⟨b, by simp only [Ctx.cut, ho, if_true]; exact q1, q2⟩
        all_goals first | exact hx0 | exact hx0.elim
theorem cut_all {c : Ctx} {U : List Nat} {b : Nat} (e : (c.cut U).all b) : c.all b := by
  have hl : ∀ k b, (c.cut U).loc k = some b → c.loc k = some b := by intro k b; simp only [Ctx.cut]; split <;> simp
  have ha : ∀ k x, (c.cut U).arr k = some x → c.arr k = some x := by intro k x; simp only [Ctx.cut]; split <;> simp
  rcases e with hy | ⟨k, h2⟩ | ⟨k, m, hv, h2, h3⟩
  · exact .inl hy
  · exact .inr (.inl ⟨k, hl _ _ h2⟩)
  · exact .inr (.inr ⟨k, m, hv, ha _ _ h2, h3⟩)
theorem Base.cut {E : Env} {U : List Nat} {c : Ctx} {a : Act} {w : World} (h : Base E U c a w) (U' : List Nat) : Base E U' (c.cut U') a w := by
  have hl : ∀ k b, (c.cut U').loc k = some b → c.loc k = some b := by intro k b; simp only [Ctx.cut]; split <;> simp
  have ha : ∀ k x, (c.cut U').arr k = some x → c.arr k = some x := by intro k x; simp only [Ctx.cut]; split <;> simp
  refine ⟨h.below, h.hB, h.nt, ⟨h.dfr.1, fun d hd => by obtain ⟨D, h1, h2, h3, h4⟩ := h.dfr.2 d hd; exact ⟨D, h1, h2, fun e => h3 (cut_all e), h4⟩⟩, (fun p hp => by obtain ⟨h1, h2⟩ := h.pin p hp; exact ⟨fun e => h1 (cut_all e), h2⟩), h.hw, h.hle, h.hnew, ?_, ?_, ?_, fun b hb => ⟨(h.Y b hb).1, (h.Y b hb).2.1, fun k hk => (h.Y b hb).2.2.1 k (hl k b hk), fun k m hv hk => (h.Y b hb).2.2.2 k m hv (ha _ _ hk)⟩, fun k b hk hl' => h.loc0 k b hk (hl _ _ hl'), fun k m hv lv hk ha' => h.arr0 k m hv lv hk (ha _ _ ha')⟩
  · intro k b hk
    obtain ⟨h1, h2, h3, h4, h5⟩ := h.loc k b (hl k b hk)
    exact ⟨h1, h2, h3, fun k' hk' => h4 k' (hl _ _ hk'), fun k' m hv hk' => h5 k' m hv (ha _ _ hk')⟩
  · intro k m hv b hk hb
    obtain ⟨h1, h2, h3, h4⟩ := h.arr k m hv b (ha _ _ hk) hb
    exact ⟨h1, h2, h3, fun k' m' hv' hk' => h4 k' m' hv' (ha _ _ hk')⟩
  · intro k hk
    simp [Ctx.cut, hk]
def Le (s : St) : St → Prop
  | [] => True
  | p :: r => look s p.1 = some p.2 ∧ Le s r
theorem Le.look {s : St} : ∀ {r : St}, Le s r → ∀ k x, look r k = some x → look s k = some x
  | [], _, _, _, h => by cases h
  | p :: r, h, k, x, hx => by
    simp only [Ab.look] at hx
    split at hx
    · rename_i hb; have := Nat.eq_of_beq_eq_true hb; cases hx; rw [← this]; exact h.1
    · exact Le.look h.2 k x hx
theorem Good.le {E : Env} {U U' : List Nat} {s s' : St} {a : Act} {w : World} (h : Good E U s a w) (hl : Le s s') (ho : s'.all (okKey U') = true) : Good E U' s' a w := by
  obtain ⟨c, hb, hh⟩ := h
  refine ⟨c.cut U', hb.cut U', fun key x hx => Holds.cut (hh key x (hl.look key x hx)) ?_⟩
  exact List.all_eq_true.1 ho _ (look_mem hx)

theorem lk_own {k n n' : Nat} (h : n = n') : some (X.own k n) = some (X.own k n') := by rw [h]
theorem lk_arr {sz : Nat} {rows rows' : List (List X)} (h : rows = rows') : some (X.arr sz rows) = some (X.arr sz rows') := by rw [h]

/-! ### code -/
inductive Kn where
  | code (c : Code)
  | blk (id : Nat)
  | lp (J : List Nat → St → Prop)
def den (E : Env) (Q : Exit → List Nat → St → Prop) : List Kn → Exit → List Nat → St → Prop
  | [], e, U, s => Q e U s
  | .code c :: k, .normal, U, s => OK E c (den E Q k) U s
  | .code _ :: k, e, U, s => den E Q k e U s
  | .blk id :: k, .exit i, U, s => if Nat.beq i id then den E Q k .normal U s else den E Q k (.exit i) U s
  | .blk _ :: k, e, U, s => den E Q k e U s
  | .lp J :: _, .normal, U, s => J U s
  | .lp _ :: k, e, U, s => den E Q k e U s
section
variable {E : Env} {Q : Exit → List Nat → St → Prop} {k : List Kn} {U : List Nat} {s : St}
theorem D.code {c : Code} (h : OK E c (den E Q k) U s) : den E Q (.code c :: k) .normal U s := h
theorem D.blk {id : Nat} (h : den E Q k .normal U s) : den E Q (.blk id :: k) .normal U s := h
theorem D.lp {J : List Nat → St → Prop} (h : J U s) : den E Q (.lp J :: k) .normal U s := h
theorem D.ret (h : Q .ret U s) {k : List Kn} : den E Q k .ret U s := by
  induction k with
  | nil => exact h
  | cons x k ih => cases x <;> exact ih
def popTo (id : Nat) : List Kn → Option (List Kn)
  | [] => none
  | .blk i :: k => if Nat.beq id i then some k else popTo id k
  | _ :: k => popTo id k
theorem D.exit {id : Nat} {k' : List Kn} (h : den E Q k' .normal U s) {k : List Kn} (hp : popTo id k = some k') : den E Q k (.exit id) U s := by
  induction k with
  | nil => cases hp
  | cons x k ih =>
    cases x with
    | code c => exact ih hp
    | lp J => exact ih hp
    | blk i =>
      simp only [popTo] at hp
      simp only [den]
      split
      · rename_i hb; rw [if_pos hb] at hp; cases hp; exact h
      · rename_i hb; rw [if_neg hb] at hp; exact ih hp

theorem OK.mono {Q' : Exit → List Nat → St → Prop} {c : Code} (h : OK E c Q U s) (hq : ∀ e U s, Q e U s → Q' e U s) : OK E c Q' U s :=
  fun a w hg => wpIn_mono (h a w hg) fun _ _ _ ⟨U', s', hg', hQ⟩ => ⟨U', s', hg', hq _ _ _ hQ⟩
theorem OK.weak {U' : List Nat} {s' : St} {c : Code} (h : OK E c Q U' s') (hl : Le s s') (ho : s'.all (okKey U') = true) : OK E c Q U s :=
  fun a w hg => h a w (hg.le hl ho)
theorem OK.skip (h : den E Q k .normal U s) : OK E .skip (den E Q k) U s := fun _ _ hg => wpIn_skip ⟨U, s, hg, h⟩
theorem OK.ret (h : Q .ret U s) : OK E .ret (den E Q k) U s := fun _ _ hg => wpIn_ret ⟨U, s, hg, D.ret h⟩
theorem OK.exit {id : Nat} {k' : List Kn} (hp : popTo id k = some k') (h : den E Q k' .normal U s) : OK E (.exit id) (den E Q k) U s := fun _ _ hg => wpIn_exit ⟨U, s, hg, D.exit h hp⟩
theorem OK.seq {x y : Code} (h : OK E x (den E Q (.code y :: k)) U s) : OK E (.seq x y) (den E Q k) U s := by
  intro a w hg
  refine wpIn_seq (wpIn_mono (h a w hg) ?_)
  rintro e a' w' ⟨U', s', hg', hq⟩
  cases e with
  | normal => exact hq a' w' hg'
  | _ => exact ⟨U', s', hg', hq⟩
theorem OK.block {id : Nat} {x : Code} (h : OK E x (den E Q (.blk id :: k)) U s) : OK E (.block id x) (den E Q k) U s := by
  intro a w hg
  refine wpIn_block (wpIn_mono (h a w hg) ?_)
  rintro e a' w' ⟨U', s', hg', hq⟩
  cases e with
  | exit i =>
    simp only [Exit.inBlock]
    simp only [den] at hq
    split
    · rename_i he; rw [if_pos (by rw [he]; exact Nat.beq_refl id)] at hq; exact ⟨U', s', hg', hq⟩
    · rename_i he; rw [if_neg (fun hb => he (Nat.eq_of_beq_eq_true hb))] at hq; exact ⟨U', s', hg', hq⟩
  | _ => exact ⟨U', s', hg', hq⟩
theorem OK.cond {t : Nat} {b : Bool} {x y : Code} (ht : Nat.blt t 1000 = true) (hl : look s t = some (.bool b)) (hx : b = true → OK E x Q U s) (hy : b = false → OK E y Q U s) : OK E (.cond (.tmp t) x y) Q U s := by
  intro a w hg
  obtain ⟨c, hb, hh⟩ := hg
  have h1 := hh t _ hl
  rw [Nat.blt_eq] at ht
  simp only [Holds, if_pos ht, RepT, RepV, RepC, RepP] at h1
  have he : a.eval (.tmp t) = .bool b := by
    show a.tmps.getD t undef = .bool b
    generalize a.tmps.getD t undef = v at h1
    cases h1; rfl
  refine wpIn_cond_split he (fun hb' => hx hb' a w ⟨c, hb, hh⟩) (fun hb' => hy hb' a w ⟨c, hb, hh⟩)
theorem wpIn_loopG {F : Fence} {n : Nat} {P : Program} {R : Exit → Act → World → Prop} {a : Act} {w : World} {c : Code} {G : Type} (I : G → Act → World → Prop) (μ : G → Nat) (g0 : G) (h0 : I g0 a w)
    (round : ∀ g a w, I g a w → c.wpIn F n P (Exit.then (fun a' w' => ∃ g', I g' a' w' ∧ μ g' < μ g) R) a w) : (Code.loop c).wpIn F n P R a w := by
  intro b k cs hro hb hr
  have key : ∀ j g a w, μ g = j → I g a w → ∃ e a' w', R e a' w' ∧ ArrivesIn (Machine.fenced P F) P (lone (b.atR a (.code c :: .inLoop c :: k)) cs w) b k cs e a' w' := by
    intro j
    induction j using Nat.strongRecOn with
    | _ j ih =>
      intro g a w hn hI
      obtain ⟨e, a₁, w₁, hq, harr⟩ := round g a w hI b (.inLoop c :: k) cs hro hb hr
      cases e with
      | normal =>
        obtain ⟨g₁, hI₁, hlt⟩ := hq
        obtain ⟨e₂, a₂, w₂, hq₂, harr₂⟩ := ih (μ g₁) (hn ▸ hlt) g₁ a₁ w₁ rfl hI₁
        exact ⟨e₂, a₂, w₂, hq₂, .of_steps (StepsIn.trans harr (.one (fenced_calm hb hr rfl) stepR_inLoop)) harr₂⟩
      | exit id => exact ⟨_, a₁, w₁, hq, .pass (x := .inLoop c) rfl (fun _ _ => .inl (by simp)) harr⟩
      | goto l => exact ⟨_, a₁, w₁, hq, .pass (x := .inLoop c) rfl (fun _ _ => .inl (by simp)) harr⟩
      | ret => exact ⟨_, a₁, w₁, hq, .pass (x := .inLoop c) rfl (fun _ _ => .inl (by simp)) harr⟩
      | panic ch => exact ⟨_, a₁, w₁, hq, .pass (x := .inLoop c) rfl (fun _ _ => .inl (by simp)) harr⟩
      | outgrown => exact ⟨_, a₁, w₁, hq, .pass (x := .inLoop c) rfl (fun _ _ => .inl (by simp)) harr⟩
  obtain ⟨e, a', w', hq, harr⟩ := key _ g0 a w rfl h0
  exact ⟨e, a', w', hq, .of_steps (.one (fenced_calm hb hr rfl) stepR_loop) harr⟩
theorem OK.loop {G : Type} (u : List Nat) (st : G → St) (pre : G → Prop) (μ : G → Nat) {body : Code} (g0 : G) (h0 : pre g0) (hl : Le s (st g0)) (ho : ∀ g, (st g).all (okKey u) = true)
    (hbody : ∀ g, pre g → OK E body (den E Q (.lp (fun _ s' => ∃ g', pre g' ∧ μ g' < μ g ∧ Le s' (st g')) :: k)) u (st g)) : OK E (.loop body) (den E Q k) U s := by
  intro a w hg
  refine wpIn_loopG (fun g a' w' => pre g ∧ Good E u (st g) a' w') μ g0 ⟨h0, hg.le hl (ho g0)⟩ ?_
  rintro g a' w' ⟨hp, hg'⟩
  refine wpIn_mono (hbody g hp a' w' hg') ?_
  rintro e a2 w2 ⟨U2, s2, hg2, hq⟩
  cases e with
  | normal =>
    obtain ⟨g2, hp2, hm2, hl2⟩ := hq
    exact ⟨g2, ⟨hp2, hg2.le hl2 (ho g2)⟩, hm2⟩
  | _ => exact ⟨U2, s2, hg2, hq⟩
theorem den_lp {J J' : List Nat → St → Prop} (h : ∀ U s, J U s → J' U s) : ∀ e U s, den E Q (.lp J :: k) e U s → den E Q (.lp J' :: k) e U s := by
  intro e U s hd
  cases e with
  | normal => exact h U s hd
  | _ => exact hd
theorem OK.loop2 {A B : Type} (u : List Nat) (st : A → B → St) (pre : A → B → Prop) (μ : A → B → Nat) {body : Code} (a0 : A) (b0 : B) (h0 : pre a0 b0) (hl : Le s (st a0 b0)) (ho : ∀ a b, (st a b).all (okKey u) = true)
    (hbody : ∀ a b, pre a b → OK E body (den E Q (.lp (fun _ s' => ∃ a' b', pre a' b' ∧ μ a' b' < μ a b ∧ Le s' (st a' b')) :: k)) u (st a b)) : OK E (.loop body) (den E Q k) U s :=
  OK.loop (G := A × B) u (fun g => st g.1 g.2) (fun g => pre g.1 g.2) (fun g => μ g.1 g.2) (a0, b0) h0 hl (fun g => ho g.1 g.2) fun g hp => (hbody g.1 g.2 hp).mono (den_lp fun _ _ ⟨a, b, h⟩ => ⟨(a, b), h⟩)
theorem OK.loop3 {A B C : Type} (u : List Nat) (st : A → B → C → St) (pre : A → B → C → Prop) (μ : A → B → C → Nat) {body : Code} (a0 : A) (b0 : B) (c0 : C) (h0 : pre a0 b0 c0) (hl : Le s (st a0 b0 c0)) (ho : ∀ a b c, (st a b c).all (okKey u) = true)
    (hbody : ∀ a b c, pre a b c → OK E body (den E Q (.lp (fun _ s' => ∃ a' b' c', pre a' b' c' ∧ μ a' b' c' < μ a b c ∧ Le s' (st a' b' c')) :: k)) u (st a b c)) : OK E (.loop body) (den E Q k) U s :=
  OK.loop (G := A × B × C) u (fun g => st g.1 g.2.1 g.2.2) (fun g => pre g.1 g.2.1 g.2.2) (fun g => μ g.1 g.2.1 g.2.2) (a0, b0, c0) h0 hl (fun g => ho g.1 g.2.1 g.2.2) fun g hp => (hbody g.1 g.2.1 g.2.2 hp).mono (den_lp fun _ _ ⟨a, b, c, h⟩ => ⟨(a, b, c), h⟩)
theorem OK.loop4 {A B C D : Type} (u : List Nat) (st : A → B → C → D → St) (pre : A → B → C → D → Prop) (μ : A → B → C → D → Nat) {body : Code} (a0 : A) (b0 : B) (c0 : C) (d0 : D) (h0 : pre a0 b0 c0 d0) (hl : Le s (st a0 b0 c0 d0)) (ho : ∀ a b c d, (st a b c d).all (okKey u) = true)
    (hbody : ∀ a b c d, pre a b c d → OK E body (den E Q (.lp (fun _ s' => ∃ a' b' c' d', pre a' b' c' d' ∧ μ a' b' c' d' < μ a b c d ∧ Le s' (st a' b' c' d')) :: k)) u (st a b c d)) : OK E (.loop body) (den E Q k) U s :=
  OK.loop (G := A × B × C × D) u (fun g => st g.1 g.2.1 g.2.2.1 g.2.2.2) (fun g => pre g.1 g.2.1 g.2.2.1 g.2.2.2) (fun g => μ g.1 g.2.1 g.2.2.1 g.2.2.2) (a0, b0, c0, d0) h0 hl (fun g => ho g.1 g.2.1 g.2.2.1 g.2.2.2) fun g hp => (hbody g.1 g.2.1 g.2.2.1 g.2.2.2 hp).mono (den_lp fun _ _ ⟨a, b, c, d, h⟩ => ⟨(a, b, c, d), h⟩)
end
end Go.Ab
