import Derived.Test.YtpmglnphhhlbdaaGreatDoorSh
import Derived.Test.YtpmglnphhhlbdaaGreatDoorWl
namespace Go.Proofs.YtpmglnphhhlbdaaGreatDoor
open Go.Ab
theorem iter_push {α : Type} : ∀ (l : List α) (q0 : List α), iterG (Ab.stepG (fun (q : List α) (d : α) => (q ++ [d], (none : Option Code)))) (q0, none) l = ((q0 ++ l, none), true)
  | [], q0 => by simp [iterG]
  | x :: l, q0 => by
    simp only [iterG, Ab.stepG, Option.isNone_none, if_true]
    rw [iter_push l (q0 ++ [x])]
    simp
theorem lk_box1 {k n n' : Nat} (h : n = n') : some (X.box [.own k n]) = some (X.box [.own k n']) := by rw [h]
theorem devOne_len (t : Nat) (rs : List Range) (c : Nat) (n : Int) : (devOne t rs c n).length ≤ 1 := by
  unfold devOne
  split <;> simp
theorem devRow_len (t : Nat) (rs : List Range) : ∀ (l : List Int) (c : Nat), (devRow t rs c l).length ≤ l.length
  | [], _ => Nat.le_refl _
  | n :: l, c => by
    have h1 := devOne_len t rs c n
    have h2 := devRow_len t rs l (c + 1)
    rw [devRow, List.length_append, List.length_cons]
    omega
theorem devGo_len (x : Envelope) (m : Nat) : ∀ (l : List Row) (t : Nat), (∀ r ∈ l, r.values.length ≤ m) → (devGo x t l).length ≤ l.length * m
  | [], _, _ => by simp [devGo]
  | r :: l, t, h => by
    have h1 := devRow_len t (x.rows.getD t []) r.values 0
    have h2 := devGo_len x m l (t + 1) fun q hq => h q (List.mem_cons_of_mem _ hq)
    have h3 := h r List.mem_cons_self
    rw [devGo, List.length_append, List.length_cons, Nat.succ_mul]
    omega
structure BothT (p : Plan) (x : Envelope) (r : Record) : Prop where
  fit : FitT x r
  rows : r.rows.length ≤ 12
  vals : ∀ (i : Nat) (h : i < r.rows.length), r.rows[i].values.length ≤ 4
theorem range_ok {x : Range} (h : rangeErr x = 0) : ((-1000000 ≤ x.lo ∧ x.lo ≤ 1000000) ∧ (-1000000 ≤ x.hi ∧ x.hi ≤ 1000000)) ∧ x.lo ≤ x.hi := by
  unfold rangeErr at h
  split at h
  · cases h
  · rename_i h1
    split at h
    · rename_i h2; exact ⟨Decidable.not_not.1 h1, h2⟩
    · cases h
theorem env_rows {p : Plan} {x : Envelope} (h : (envChk p x).2 = 0) : (1 ≤ x.parts ∧ x.parts ≤ 20) ∧ trimErr x.trim x.parts = 0 ∧ (x.rows.length : Int) = p.ticks ∧ (∀ (i : Nat) (h : i < x.rows.length), x.rows[i].length = p.channels.length ∧ ∀ (j : Nat) (h2 : j < x.rows[i].length), rangeErr x.rows[i][j] = 0) := by
  unfold envChk at h
  split at h
  · cases h
  · rename_i h1
    split at h
    · rename_i h2; exact absurd h h2
    · rename_i h2
      split at h
      · cases h
      · rename_i h3
        refine ⟨Decidable.not_not.1 h1, Decidable.not_not.1 h2, Decidable.not_not.1 h3, fun i hi => ?_⟩
        have h4 := eachGo_all _ _ 0 h i hi
        unfold erowErr at h4
        split at h4
        · cases h4
        · rename_i h5
          exact ⟨Decidable.not_not.1 h5, fun j hj => eachGo_all _ _ 0 h4 j hj⟩
theorem rec_rows {p : Plan} {r : Record} (h : (recChk p r).2 = 0) : (r.rows.length : Int) = p.ticks ∧ ∀ (i : Nat) (h : i < r.rows.length), rowErr p r.rows[i] = 0 := by
  unfold recChk at h
  split at h
  · cases h
  · rename_i h1
    exact ⟨Decidable.not_not.1 h1, fun i hi => eachGo_all _ _ 0 h i hi⟩
theorem row_ok {p : Plan} {r : Row} (h : rowErr p r = 0) : (r.known = true → r.values.length = p.channels.length) ∧ (r.known = false → r.values.length = 0) ∧ ∀ (j : Nat) (h2 : j < r.values.length), -1000000 ≤ r.values[j] ∧ r.values[j] ≤ 1000000 := by
  unfold rowErr at h
  split at h
  · rename_i hk
    unfold valuesErr at h
    split at h
    · cases h
    · rename_i h1
      split at h
      · rename_i h2
        exact ⟨fun _ => Decidable.not_not.1 h1, (fun e => by rw [hk] at e; cases e), fun j hj => of_decide_eq_true (List.all_eq_true.1 h2 _ (List.getElem_mem hj))⟩
      · cases h
  · rename_i hk
    split at h
    · rename_i h1
      exact ⟨fun e => absurd e hk, fun _ => h1, fun j hj => by omega⟩
    · cases h
theorem both_of {p : Plan} {x : Envelope} {r : Record} (h : bothErr p x r = 0) : BothT p x r := by
  unfold bothErr at h
  split at h
  · rename_i h1; exact absurd h h1
  · rename_i h1
    split at h
    · rename_i h2; exact absurd h h2
    · rename_i h2
      have hp := planErr_0 (Decidable.not_not.1 h1)
      obtain ⟨_, _, e3, e4⟩ := env_rows (Decidable.not_not.1 h2)
      obtain ⟨f1, f2⟩ := rec_rows h
      have hv : ∀ (i : Nat) (hi : i < r.rows.length), r.rows[i].values.length ≤ p.channels.length := fun i hi => by
        obtain ⟨g1, g2, _⟩ := row_ok (f2 i hi)
        cases hk : r.rows[i].known with
        | true => have := g1 hk; omega
        | false => have := g2 hk; omega
      refine ⟨⟨fun i hi => by omega, fun i hi h2 j hj => by have := hv i hi; have := (e4 i h2).1; omega, fun i hi j hj => (row_ok (f2 i hi)).2.2 j hj, fun i hi j hj => (range_ok ((e4 i hi).2 j hj)).1⟩, by omega, fun i hi => by have := hv i hi; omega⟩
theorem both_len {p : Plan} {x : Envelope} {r : Record} (h : BothT p x r) : (devT x r).length ≤ 100000 := by
  have h1 := devGo_len x 4 r.rows 0 fun q hq => by
    obtain ⟨i, hi, rfl⟩ := List.getElem_of_mem hq
    exact h.vals i hi
  have h2 := h.rows
  unfold devT
  omega
theorem env_ext {a b : Envelope} (h1 : a.parts = b.parts) (h2 : a.trim = b.trim) (h3 : a.rows = b.rows) : a = b := by
  cases a; cases b; simp at h1 h2 h3; simp [h1, h2, h3]
def wholeR (l : List (List Int)) : Record := ⟨l.map fun v => ⟨true, v⟩⟩
def planE : Plan := ⟨[[112, 111, 119, 101, 114], [102, 108, 111, 119]], 2⟩
def recsE : List Record := [wholeR [[10, 5], [12, 5]], wholeR [[11, 6], [12, 4]], wholeR [[13, 5], [11, 5]]]
def envE : Envelope := ⟨3, 0, [[⟨10, 13⟩, ⟨5, 6⟩], [⟨11, 12⟩, ⟨4, 5⟩]]⟩
def recE : Record := wholeR [[14, 5], [10, 5]]
def passesE : List Pass := [⟨7, 0, 4⟩, ⟨8, 3, 9⟩]
def ruleE : Rule := ⟨10, 1, 3⟩
theorem appendSeq_dev {gf : Nat} {caps : List X} {D : List Deviation} (hseq : SeqOk Tryz.prog gf caps (fun d => [.agg (Deviation.cs d)]) D) (hcall : CallOk gf) (hc : Clean caps) (hlen : D.length ≤ 100000) : Ct Tryz.prog 133 [.nils, .fn gf caps] (.sl (D.map Deviation.cs)) := by
  refine Ct.intro (rs := [.tmp 4]) Tryz.func133 rfl Tryz.ntmps133 Tryz.results133 rfl rfl rfl fun w h => ?_
  refine OK.seq (OK.reg ?_)
  refine RK.c (S.box (k := 2) rfl .none rfl (.tmp rfl rfl) rfl) ?_
  refine RK.c (S.assign .none rfl .cnil) ?_
  refine RK.nil (Ab.D.code (OK.seq (OK.seq (OK.reg ?_))))
  refine RK.c (S.move .none rfl (.tmp rfl rfl)) ?_
  refine RK.nil (Ab.D.code ?_)
  refine OK.block ?_
  refine OK.boxOwn 2 0 880 3 rfl rfl rfl rfl rfl ?_
  refine OK.rangeFunc (ps := [7]) (encs := (fun d => [.agg (Deviation.cs d)])) (L := D) [2, 880] [(2, .ptr 2 0)] (fun q => [(1002, .box [.own 880 q.length]), (2880, .arr 3 (q.map Deviation.cs))]) ([] : List Deviation) (fun q d => (q ++ [d], none)) (hseq) hcall (.inl rfl) (.tmp rfl rfl) hc.1 hc.2 ⟨rfl, rfl, (lk_arr (by first | rfl | (simp; done) | (simp; omega))), trivial⟩ (fun _ => rfl) (fun _ => rfl) (fun _ => rfl) (fun _ => rfl) (fun _ => rfl) (by decide) rfl ?_ ?_ ?_
  · rintro i x q hx hq lr c0 w0 p1 p2 hR1 hR2
    rw [iter_push] at hq
    have hq2 : D.take i = q := by simpa using hq
    have hql : q.length ≤ 100000 := by rw [← hq2, List.length_take]; omega
    refine OK.reg ?_
    refine RK.c (S.alloc (k := 5) ze117 rfl .none rfl) ?_
    refine RK.c (S.store ti117 .none (.tmp rfl rfl) (.tmp rfl rfl) rfl rfl rfl rfl rfl rfl) ?_
    refine RK.nil ?_
    refine ⟨rfl, ?_⟩
    refine OK.block ?_
    refine OK.reg ?_
    refine RK.c (S.bload1 ti85 .none rfl (.tmp rfl rfl) rfl rfl rfl rfl) ?_
    refine RK.c (S.bloadN ti117 .none rfl (.tmp rfl rfl) rfl rfl rfl rfl) ?_
    refine RK.c (S.mkSlice (k := 10) (rows := [[_, _, _]]) ai85 .none rfl (.cons (.tmp rfl rfl) .nil) rfl rfl rfl rfl rfl rfl rfl) ?_
    refine RK.c (S.append ai85 .none rfl (.tmp rfl rfl) rfl (by simp) (.tmp rfl rfl) rfl (by first | rfl | (simp; done) | (simp; omega)) (by omega) (by simp only [maxLen]; omega)) ?_
    refine RK.c (S.store ti85 .none (.tmp rfl rfl) (.tmp rfl rfl) rfl rfl rfl rfl rfl rfl) ?_
    refine RK.nil ?_
    refine Ab.D.blk ?_
    exact ⟨rfl, lk_box1 (by simp), lk_arr (by rw [List.map_append]; rfl), trivial⟩
  · rintro q hq
    rw [iter_push] at hq
    have hq2 : D = q := by simpa using hq
    subst hq2
    refine Ab.D.blk ?_
    refine Ab.D.code (OK.seq (OK.reg ?_))
    refine RK.c (S.bload1 ti85 .none rfl (.tmp rfl rfl) rfl rfl rfl rfl) ?_
    refine RK.c (S.assign .none rfl (.tmp rfl rfl)) ?_
    refine RK.nil (Ab.D.code ?_)
    refine OK.ret (Ret.r1 (.tmp rfl rfl (.c (.own rfl rfl (by first | rfl | (simp; done) | (simp; omega))) rfl) rfl) ?_)
    rfl
  · rintro q cd hq
    rw [iter_push] at hq
    cases hq
theorem collect_dev {gf : Nat} {caps : List X} {D : List Deviation} (hseq : SeqOk Tryz.prog gf caps (fun d => [.agg (Deviation.cs d)]) D) (hcall : CallOk gf) (hc : Clean caps) (hlen : D.length ≤ 100000) : Ct Tryz.prog 94 [.fn gf caps] (.sl (D.map Deviation.cs)) := by
 refine Ct.intro (rs := [.tmp 2]) Tryz.func94 rfl Tryz.ntmps94 Tryz.results94 rfl rfl rfl fun w h => ?_
 refine OK.seq (OK.reg ?_)
 refine RK.c (S.assign .none rfl .cnil) ?_
 refine RK.nil (Ab.D.code (OK.seq (OK.reg ?_)))
 refine RK.c (S.move .none rfl (.tmp rfl rfl)) ?_
 refine RK.c (S.call (appendSeq_dev hseq hcall hc hlen) Tryz.call133 .none rfl (.cons .cnils (.cons (.tmp rfl rfl) .nil)) (by simp [okArg, okV, okC, okP, isTup, hc.1])) ?_
 refine RK.c (S.assign .none rfl (.tmp rfl rfl)) ?_
 refine RK.nil (Ab.D.code ?_)
 refine OK.ret (Ret.r1 (.tmp rfl rfl (.c (.same rfl) rfl) rfl) ?_)
 rfl
theorem mon_deviations {x : Envelope} {r : Record} : Ct Tryz.prog 95 [.agg x.cs, .agg r.cs] (.fn 134 [.eptr r.cs, .eptr x.cs]) := by
 refine Ct.intro (rs := [.tmp 4]) Tryz.func95 rfl Tryz.ntmps95 Tryz.results95 rfl rfl rfl fun w h => ?_
 refine OK.seq (OK.reg ?_)
 refine RK.c (S.box (k := 2) rfl .none rfl (.tmp rfl rfl) rfl) ?_
 refine RK.c (S.box (k := 3) rfl .none rfl (.tmp rfl rfl) rfl) ?_
 refine RK.c (S.assign .none rfl .craw) ?_
 refine RK.nil (Ab.D.code (OK.seq (OK.reg ?_)))
 refine RK.c (S.makeFunc2 .none rfl (.tmp rfl rfl) (.tmp rfl rfl) rfl rfl) ?_
 refine RK.c (S.assign .none rfl (.tmp rfl rfl)) ?_
 refine RK.nil (Ab.D.code ?_)
 refine OK.ret (Ret.r1 (.tmp rfl rfl (.fn (.k (.ptr rfl rfl rfl rfl) (.k (.ptr rfl rfl rfl rfl) .z)) rfl) rfl) ?_)
 rfl
theorem mon_DeviationsOf {p : Plan} {x : Envelope} {r : Record} : Ct Tryz.prog 41 [.agg p.cs, .agg x.cs, .agg r.cs] (.tup [devs (if bothErr p x r = 0 then devT x r else []), .int .i64 (bothErr p x r)]) := by
 refine Ct.intro (rs := [.tmp 6, .tmp 7]) Tryz.func41 rfl Tryz.ntmps41 Tryz.results41 rfl rfl rfl fun w h => ?_
 refine OK.seq (OK.reg ?_)
 refine RK.c (S.box (k := 3) rfl .none rfl (.tmp rfl rfl) rfl) ?_
 refine RK.c (S.box (k := 4) rfl .none rfl (.tmp rfl rfl) rfl) ?_
 refine RK.c (S.box (k := 5) rfl .none rfl (.tmp rfl rfl) rfl) ?_
 refine RK.c (S.assign .none rfl .cnil) ?_
 refine RK.c (S.assign .none rfl (.cint rfl)) ?_
 refine RK.nil (Ab.D.code (OK.seq (OK.seq (OK.reg ?_))))
 refine RK.c (S.bloadN ti24 .none rfl (.tmp rfl rfl) rfl rfl rfl rfl) ?_
 refine RK.c (S.bloadN ti30 .none rfl (.tmp rfl rfl) rfl rfl rfl rfl) ?_
 refine RK.c (S.bloadN ti75 .none rfl (.tmp rfl rfl) rfl rfl rfl rfl) ?_
 refine RK.c (S.call (mon_openBoth) Tryz.call90 .none rfl (.cons (.tmp rfl rfl) (.cons (.tmp rfl rfl) (.cons (.tmp rfl rfl) .nil))) rfl) ?_
 refine RK.c (S.assign .none rfl (.tmp rfl rfl)) ?_
 refine RK.nil (Ab.D.code (OK.seq (OK.reg ?_)))
 refine RK.c (S.move .none rfl (.tmp rfl rfl)) ?_
 refine RK.c (S.neq .none rfl (.tmp rfl rfl) (.cint rfl)) ?_
 refine RK.nil (Ab.D.code ?_)
 refine OK.condD rfl rfl (fun c14 => ?_) (fun c14 => ?_)
 ·
  refine OK.seq (OK.reg ?_)
  refine RK.c (S.move .none rfl (.tmp rfl rfl)) ?_
  refine RK.c (S.assign .none rfl .cnil) ?_
  refine RK.c (S.assign .none rfl (.tmp rfl rfl)) ?_
  refine RK.nil (Ab.D.code ?_)
  refine OK.ret (Ret.r2 (.tmp rfl rfl (.c (.same rfl) rfl) rfl) (.tmp rfl rfl (.c (.same rfl) rfl) rfl) ?_)
  rw [if_neg (show ¬ bothErr p x r = 0 from c14)]
  rfl
 ·
  have he : bothErr p x r = 0 := by omega
  have hb := both_of he
  refine OK.skip ?_
  refine Ab.D.code (OK.seq (OK.reg ?_))
  refine RK.c (S.bloadN ti30 .none rfl (.tmp rfl rfl) rfl rfl rfl rfl) ?_
  refine RK.c (S.bloadN ti75 .none rfl (.tmp rfl rfl) rfl rfl rfl rfl) ?_
  refine RK.c (S.call (mon_deviations) Tryz.call95 .none rfl (.cons (.tmp rfl rfl) (.cons (.tmp rfl rfl) .nil)) rfl) ?_
  refine RK.c (S.call (collect_dev (D := devT x r) (fun J g s0 Φ hst hcb => mon_devs1 hb.fit (by have := hb.rows; omega) (fun i h => by have := hb.vals i h; omega) J g s0 Φ hst hcb) Tryz.call134 ⟨rfl, rfl⟩ (both_len hb)) Tryz.call94 .none rfl (.cons (.tmp rfl rfl) .nil) rfl) ?_
  refine RK.c (S.assign .none rfl (.tmp rfl rfl)) ?_
  refine RK.c (S.assign .none rfl (.cint rfl)) ?_
  refine RK.nil (Ab.D.code ?_)
  refine OK.ret (Ret.r2 (.tmp rfl rfl (.c (.same rfl) rfl) rfl) (.tmp rfl rfl (.c (.same rfl) rfl) rfl) ?_)
  rw [if_pos he, he]
  rfl
theorem ref_SameEnvelope {a b : Envelope} : Ct Tryz.prog 26 [.agg a.cs, .agg b.cs] (.bool (decide (a = b))) := by
 refine Ct.intro (rs := [.tmp 4]) Tryz.func26 rfl Tryz.ntmps26 Tryz.results26 rfl rfl rfl fun w h => ?_
 refine OK.aggLen 0 2 (a.rows.map fun l => [.sl (l.map Range.cs)]) rfl rfl rfl fun hlen => ?_
 rw [List.length_map] at hlen
 unfold maxLen at hlen
 refine OK.seq (OK.reg ?_)
 refine RK.c (S.box (k := 2) rfl .none rfl (.tmp rfl rfl) rfl) ?_
 refine RK.c (S.box (k := 3) rfl .none rfl (.tmp rfl rfl) rfl) ?_
 refine RK.c (S.assign .none rfl .cbool) ?_
 refine RK.nil (Ab.D.code (OK.seq (OK.seq (OK.reg ?_))))
 refine RK.c (S.bfield fi30_0 .none rfl (.tmp rfl rfl)) ?_
 refine RK.c (S.bload1 ti3 .none rfl (.tmp rfl rfl) rfl rfl rfl rfl) ?_
 refine RK.c (S.bfield fi30_0 .none rfl (.tmp rfl rfl)) ?_
 refine RK.c (S.bload1 ti3 .none rfl (.tmp rfl rfl) rfl rfl rfl rfl) ?_
 refine RK.c (S.neq .none rfl (.tmp rfl rfl) (.tmp rfl rfl)) ?_
 refine RK.c (S.move .none rfl (.tmp rfl rfl)) ?_
 refine RK.splitD (t := 11) rfl (fun g11 => ?_) (fun g11 => ?_)
 ·
  refine RK.c (S.skip rfl rfl rfl rfl rfl) ?_
  refine RK.c (S.skip rfl rfl rfl rfl rfl) ?_
  refine RK.c (S.skip rfl rfl rfl rfl rfl) ?_
  refine RK.c (S.skip rfl rfl rfl rfl rfl) ?_
  refine RK.c (S.skip rfl rfl rfl rfl rfl) ?_
  refine RK.c (S.pickT .none rfl (.tmp rfl rfl) .cbool rfl) ?_
  refine RK.c (S.move .none rfl (.tmp rfl rfl)) ?_
  refine RK.c (S.skip rfl rfl rfl rfl rfl) ?_
  refine RK.c (S.skip rfl rfl rfl rfl rfl) ?_
  refine RK.c (S.skip rfl rfl rfl rfl rfl) ?_
  refine RK.c (S.skip rfl rfl rfl rfl rfl) ?_
  refine RK.c (S.skip rfl rfl rfl rfl rfl) ?_
  refine RK.c (S.skip rfl rfl rfl rfl rfl) ?_
  refine RK.c (S.skip rfl rfl rfl rfl rfl) ?_
  refine RK.c (S.pickT .none rfl (.tmp rfl rfl) .cbool rfl) ?_
  refine RK.nil (Ab.D.code ?_)
  refine OK.condT rfl rfl rfl ?_
  refine OK.seq (OK.reg ?_)
  refine RK.c (S.assign .none rfl .cbool) ?_
  refine RK.nil (Ab.D.code ?_)
  refine OK.ret (Ret.r1 (.tmp rfl rfl (.c (.same rfl) rfl) rfl) ?_)
  exact ret_F (fun e => g11 (by rw [e]))
 ·
  refine RK.c (S.bfield fi30_1 (.yes rfl rfl rfl rfl) rfl (.tmp rfl rfl)) ?_
  refine RK.c (S.bload1 ti3 (.yes rfl rfl rfl rfl) rfl (.tmp rfl rfl) rfl rfl rfl rfl) ?_
  refine RK.c (S.bfield fi30_1 (.yes rfl rfl rfl rfl) rfl (.tmp rfl rfl)) ?_
  refine RK.c (S.bload1 ti3 (.yes rfl rfl rfl rfl) rfl (.tmp rfl rfl) rfl rfl rfl rfl) ?_
  refine RK.c (S.neq (.yes rfl rfl rfl rfl) rfl (.tmp rfl rfl) (.tmp rfl rfl)) ?_
  refine RK.c (S.pickF .none rfl (.tmp rfl rfl) (.tmp rfl rfl) rfl) ?_
  refine RK.c (S.move .none rfl (.tmp rfl rfl)) ?_
  refine RK.splitD (t := 18) rfl (fun g18 => ?_) (fun g18 => ?_)
  ·
   refine RK.c (S.skip rfl rfl rfl rfl rfl) ?_
   refine RK.c (S.skip rfl rfl rfl rfl rfl) ?_
   refine RK.c (S.skip rfl rfl rfl rfl rfl) ?_
   refine RK.c (S.skip rfl rfl rfl rfl rfl) ?_
   refine RK.c (S.skip rfl rfl rfl rfl rfl) ?_
   refine RK.c (S.skip rfl rfl rfl rfl rfl) ?_
   refine RK.c (S.skip rfl rfl rfl rfl rfl) ?_
   refine RK.c (S.pickT .none rfl (.tmp rfl rfl) .cbool rfl) ?_
   refine RK.nil (Ab.D.code ?_)
   refine OK.condT rfl rfl rfl ?_
   refine OK.seq (OK.reg ?_)
   refine RK.c (S.assign .none rfl .cbool) ?_
   refine RK.nil (Ab.D.code ?_)
   refine OK.ret (Ret.r1 (.tmp rfl rfl (.c (.same rfl) rfl) rfl) ?_)
   exact ret_F (fun e => g18 (by rw [e]))
  ·
   refine RK.c (S.bfield fi30_2 (.yes rfl rfl rfl rfl) rfl (.tmp rfl rfl)) ?_
   refine RK.c (S.bload1 ti28 (.yes rfl rfl rfl rfl) rfl (.tmp rfl rfl) rfl rfl rfl rfl) ?_
   refine RK.c (S.lenM si28 (.yes rfl rfl rfl rfl) rfl (.tmp rfl rfl)) ?_
   refine RK.c (S.bfield fi30_2 (.yes rfl rfl rfl rfl) rfl (.tmp rfl rfl)) ?_
   refine RK.c (S.bload1 ti28 (.yes rfl rfl rfl rfl) rfl (.tmp rfl rfl) rfl rfl rfl rfl) ?_
   refine RK.c (S.lenM si28 (.yes rfl rfl rfl rfl) rfl (.tmp rfl rfl)) ?_
   refine RK.c (S.neq (.yes rfl rfl rfl rfl) rfl (.tmp rfl rfl) (.tmp rfl rfl)) ?_
   refine RK.c (S.pickF .none rfl (.tmp rfl rfl) (.tmp rfl rfl) rfl) ?_
   refine RK.nil (Ab.D.code ?_)
   refine OK.condD rfl rfl (fun c26 => ?_) (fun c26 => ?_)
   ·
    refine OK.seq (OK.reg ?_)
    refine RK.c (S.assign .none rfl .cbool) ?_
    refine RK.nil (Ab.D.code ?_)
    refine OK.ret (Ret.r1 (.tmp rfl rfl (.c (.same rfl) rfl) rfl) ?_)
    exact ret_F (fun e => c26 (by rw [e]))
   ·
    have h1 : a.parts = b.parts := Decidable.not_not.1 g11
    have h2 : a.trim = b.trim := Decidable.not_not.1 g18
    have hl : a.rows.length = b.rows.length := by have := Decidable.not_not.1 c26; omega
    refine OK.skip ?_
    refine Ab.D.code (OK.seq (OK.seq (OK.reg ?_)))
    refine RK.c (S.assign .none rfl (.cint rfl)) ?_
    refine RK.nil (Ab.D.code ?_)
    refine OK.block ?_
    refine OK.loop (G := Nat) [2, 3] (fun i => [(2, .ptr 2 0), (1002, .box a.cs), (3, .ptr 3 0), (1003, .box b.cs), (5, .int .i64 i)]) (fun i => i ≤ a.rows.length ∧ a.rows.take i = b.rows.take i) (fun i => a.rows.length - i) 0 ⟨Nat.zero_le _, rfl⟩ ⟨rfl, rfl, rfl, rfl, rfl, trivial⟩ (fun _ => rfl) ?_
    rintro i ⟨hi, ht⟩
    refine OK.seq (OK.seq (OK.reg ?_))
    refine RK.c (S.move .none rfl (.tmp rfl rfl)) ?_
    refine RK.c (S.bfield fi30_2 .none rfl (.tmp rfl rfl)) ?_
    refine RK.c (S.bload1 ti28 .none rfl (.tmp rfl rfl) rfl rfl rfl rfl) ?_
    refine RK.c (S.lenM si28 .none rfl (.tmp rfl rfl)) ?_
    refine RK.c (S.lss .none rfl (.tmp rfl rfl) (.tmp rfl rfl)) ?_
    refine RK.nil (Ab.D.code ?_)
    refine OK.condD rfl rfl (fun c31 => ?_) (fun c31 => ?_)
    ·
     refine OK.skip ?_
     refine Ab.D.code ?_
     refine OK.seq ?_
     refine OK.block ?_
     refine OK.seq ?_
     refine OK.regionDraw follows (.c (S.bfield fi30_2 .none rfl (.tmp rfl rfl))
      (.c (S.bload1 ti28 .none rfl (.tmp rfl rfl) rfl rfl rfl rfl)
      (.c (S.move .none rfl (.tmp rfl rfl))
      (.c (S.indexM si28 .none rfl (.tmp rfl rfl) (.tmp rfl rfl) rfl (by omega) rfl)
      (.c (S.load1 ti114 .none rfl (.tmp rfl rfl) rfl)
      (.c (S.bfield fi30_2 .none rfl (.tmp rfl rfl))
      (.c (S.bload1 ti28 .none rfl (.tmp rfl rfl) rfl rfl rfl rfl)
      (.c (S.move .none rfl (.tmp rfl rfl))
      (.c (S.indexM si28 .none rfl (.tmp rfl rfl) (.tmp rfl rfl) rfl (by omega) rfl)
      (.c (S.load1 ti114 .none rfl (.tmp rfl rfl) rfl)
      (.c (S.call (base_Ranges) Tryz.call72 .none rfl (.cons (.tmp rfl rfl) (.cons (.tmp rfl rfl) .nil)) rfl)
      (.c (S.notD .none rfl (.tmp rfl rfl))
      .nil)))))))))))) (by kernel_rfl) ?_
     refine Ab.D.code ?_
     refine OK.condD rfl rfl (fun c45 => ?_) (fun c45 => ?_)
     ·
      refine OK.seq (OK.reg ?_)
      refine RK.c (S.assign .none rfl .cbool) ?_
      refine RK.nil (Ab.D.code ?_)
      refine OK.ret (Ret.r1 (.tmp rfl rfl (.c (.same rfl) rfl) rfl) ?_)
      exact ret_F (fun e => by subst e; exact c45 rfl)
     ·
      refine OK.skip ?_
      refine Ab.D.blk ?_
      refine Ab.D.code (OK.reg ?_)
      refine RK.c (S.move .none rfl (.tmp rfl rfl)) ?_
      refine RK.c (S.add .none rfl (.tmp rfl rfl) (.cint rfl) (IntWalk.i64_in _ (by omega)) (IntWalk.i64_in _ (by omega))) ?_
      refine RK.c (S.assign .none rfl (.tmp rfl rfl)) ?_
      refine RK.nil ?_
      refine Ab.D.lp ⟨i + 1, ⟨by omega, take_eq_step (by omega) (by omega) ht (Decidable.not_not.1 c45)⟩, (by omega), rfl, rfl, rfl, rfl, rfl, trivial⟩
    ·
     refine OK.exit rfl ?_
     refine Ab.D.code (OK.seq (OK.reg ?_))
     refine RK.c (S.assign .none rfl .cbool) ?_
     refine RK.nil (Ab.D.code ?_)
     refine OK.ret (Ret.r1 (.tmp rfl rfl (.c (.same rfl) rfl) rfl) ?_)
     exact ret_T (env_ext h1 h2 (take_eq_all hl (by omega) ht))
theorem law_Plan  : Ct Tryz.prog 45 [] (.agg planE.cs) := by
 refine Ct.intro (rs := [.cell 0 24]) Tryz.func45 rfl Tryz.ntmps45 Tryz.results45 rfl rfl rfl fun w h => ?_
 refine OK.seq (OK.reg ?_)
 refine RK.c (S.alloc (k := 0) ze24 rfl .none rfl) ?_
 refine RK.nil (Ab.D.code (OK.seq (OK.reg ?_)))
 refine RK.c (S.mkData (rows := [[_], [_]]) ai22 .none rfl (.cons (.cstr (l := [112, 111, 119, 101, 114]) rfl (by decide)) (.cons (.cstr (l := [102, 108, 111, 119]) rfl (by decide)) .nil)) rfl rfl rfl rfl rfl rfl rfl) ?_
 refine RK.c (S.build bu24 rfl .none rfl (.cons (.tmp rfl rfl) (.cons (.cint rfl) .nil)) rfl rfl) ?_
 refine RK.c (S.store ti24 .none (.tmp rfl rfl) (.tmp rfl rfl) rfl rfl rfl rfl rfl rfl) ?_
 refine RK.nil (Ab.D.code ?_)
 refine OK.ret (Ret.r1 (.cellN rfl rfl rfl rfl ti24 rfl (.k (.same rfl) (.k (.same rfl) .z))) ?_)
 rfl
theorem law_Whole {l : List (List Int)} (hlen : l.length ≤ 1000) : Ct Tryz.prog 47 [.sl (l.map (fun v => [X.sl (v.map fun n => [.int .i64 n])]))] (.agg (wholeR l).cs) := by
 refine Ct.intro (rs := [.cell 2 75]) Tryz.func47 rfl Tryz.ntmps47 Tryz.results47 rfl rfl rfl fun w h => ?_
 refine OK.seq (OK.reg ?_)
 refine RK.c (S.alloc (k := 2) ze75 rfl .none rfl) ?_
 refine RK.nil (Ab.D.code (OK.seq (OK.reg ?_)))
 refine RK.c (S.alloc (k := 3) ze75 rfl .none rfl) ?_
 refine RK.nil (Ab.D.code (OK.seq (OK.seq (OK.reg ?_))))
 refine RK.c (S.assign .none rfl (.cint rfl)) ?_
 refine RK.nil (Ab.D.code ?_)
 refine OK.block ?_
 refine OK.boxOwn 3 0 890 2 rfl rfl rfl rfl rfl ?_
 refine OK.loop (G := Nat) [2, 3, 890] (fun i => [(0, .sl (l.map (fun v => [X.sl (v.map fun n => [.int .i64 n])]))), (2, .ptr 2 0), (1002, .box [.nils]), (3, .ptr 3 0), (1003, .box [.own 890 i]), (2890, .arr 2 (((l.take i).map fun v => (⟨true, v⟩ : Row)).map Row.cs)), (4, .int .i64 i)]) (fun i => i ≤ l.length) (fun i => l.length - i) 0 (Nat.zero_le _) ⟨rfl, rfl, rfl, rfl, rfl, (lk_arr (by first | rfl | (simp; done) | (simp; omega))), rfl, trivial⟩ (fun _ => rfl) ?_
 rintro i hi
 refine OK.seq (OK.seq (OK.reg ?_))
 refine RK.c (S.move .none rfl (.tmp rfl rfl)) ?_
 refine RK.c (S.move .none rfl (.tmp rfl rfl)) ?_
 refine RK.c (S.lenM si179 .none rfl (.tmp rfl rfl)) ?_
 refine RK.c (S.lss .none rfl (.tmp rfl rfl) (.tmp rfl rfl)) ?_
 refine RK.nil (Ab.D.code ?_)
 refine OK.condD rfl rfl (fun c8 => ?_) (fun c8 => ?_)
 ·
  refine OK.skip ?_
  refine Ab.D.code ?_
  refine OK.seq ?_
  refine OK.block ?_
  refine OK.regionDraw follows (.c (S.bfield fi75_0 .none rfl (.tmp rfl rfl))
   (.c (S.bload1 ti73 .none rfl (.tmp rfl rfl) rfl rfl rfl rfl)
   (.c (S.move .none rfl (.tmp rfl rfl))
   (.c (S.move .none rfl (.tmp rfl rfl))
   (.c (S.indexM si179 .none rfl (.tmp rfl rfl) (.tmp rfl rfl) rfl (by omega) rfl)
   (.c (S.load1 ti25 .none rfl (.tmp rfl rfl) rfl)
   (.c (S.build bu162 rfl .none rfl (.cons .cbool (.cons (.tmp rfl rfl) .nil)) rfl rfl)
   (.c (S.mkSlice (k := 18) (rows := [[_, _]]) ai73 .none rfl (.cons (.tmp rfl rfl) .nil) rfl rfl rfl rfl rfl rfl rfl)
   (.c (S.append ai73 .none rfl (.tmp rfl rfl) rfl (by simp; omega) (.tmp rfl rfl) rfl (by first | rfl | (simp; done) | (simp; omega)) (by omega) (by simp only [maxLen]; omega))
   (.c (S.bfield fi75_0 .none rfl (.tmp rfl rfl))
   (.c (S.store ti73 .none (.tmp rfl rfl) (.tmp rfl rfl) rfl rfl rfl rfl rfl rfl)
   .nil))))))))))) (by kernel_rfl) ?_
  refine Ab.D.blk ?_
  refine Ab.D.code (OK.reg ?_)
  refine RK.c (S.move .none rfl (.tmp rfl rfl)) ?_
  refine RK.c (S.add .none rfl (.tmp rfl rfl) (.cint rfl) (IntWalk.i64_in _ (by omega)) (IntWalk.i64_in _ (by omega))) ?_
  refine RK.c (S.assign .none rfl (.tmp rfl rfl)) ?_
  refine RK.nil ?_
  refine Ab.D.lp ⟨i + 1, (by omega), (by omega), rfl, rfl, rfl, rfl, rfl, (lk_arr (by rw [← take_snoc (by omega)]; simp only [List.map_append, List.map_cons, List.map_nil]; rfl)), rfl, trivial⟩
 ·
  refine OK.exit rfl ?_
  refine Ab.D.code (OK.seq (OK.reg ?_))
  refine RK.c (S.bloadN ti75 .none rfl (.tmp rfl rfl) rfl rfl rfl rfl) ?_
  refine RK.c (S.store ti75 .none (.tmp rfl rfl) (.tmp rfl rfl) rfl rfl rfl rfl rfl rfl) ?_
  refine RK.nil (Ab.D.code ?_)
  refine OK.ret (Ret.r1 (.cellN rfl rfl rfl rfl ti75 rfl (.k (.own rfl rfl (by first | rfl | (simp; done) | (simp; omega))) .z)) ?_)
  rw [show i = l.length by omega, List.take_length]
  rfl
theorem law_Records  : Ct Tryz.prog 46 [] (.sl (recsE.map Record.cs)) := by
 refine Ct.intro (rs := [.tmp 0]) Tryz.func46 rfl Tryz.ntmps46 Tryz.results46 rfl rfl rfl fun w h => ?_
 refine OK.seq (OK.reg ?_)
 refine RK.c (S.assign .none rfl .cnil) ?_
 refine RK.nil (Ab.D.code (OK.seq (OK.reg ?_)))
 refine RK.c (S.mkData (rows := [[_], [_]]) ai25 .none rfl (.cons (.cint rfl) (.cons (.cint rfl) .nil)) rfl rfl rfl rfl rfl rfl rfl) ?_
 refine RK.c (S.mkData (rows := [[_], [_]]) ai25 .none rfl (.cons (.cint rfl) (.cons (.cint rfl) .nil)) rfl rfl rfl rfl rfl rfl rfl) ?_
 refine RK.c (S.mkData (rows := [[_], [_]]) ai179 .none rfl (.cons (.tmp rfl rfl) (.cons (.tmp rfl rfl) .nil)) rfl rfl rfl rfl rfl rfl rfl) ?_
 refine RK.c (S.call (law_Whole (l := [[10, 5], [12, 5]]) (by decide)) Tryz.call47 .none rfl (.cons (.tmp rfl rfl) .nil) rfl) ?_
 refine RK.c (S.mkData (rows := [[_], [_]]) ai25 .none rfl (.cons (.cint rfl) (.cons (.cint rfl) .nil)) rfl rfl rfl rfl rfl rfl rfl) ?_
 refine RK.c (S.mkData (rows := [[_], [_]]) ai25 .none rfl (.cons (.cint rfl) (.cons (.cint rfl) .nil)) rfl rfl rfl rfl rfl rfl rfl) ?_
 refine RK.c (S.mkData (rows := [[_], [_]]) ai179 .none rfl (.cons (.tmp rfl rfl) (.cons (.tmp rfl rfl) .nil)) rfl rfl rfl rfl rfl rfl rfl) ?_
 refine RK.c (S.call (law_Whole (l := [[11, 6], [12, 4]]) (by decide)) Tryz.call47 .none rfl (.cons (.tmp rfl rfl) .nil) rfl) ?_
 refine RK.c (S.mkData (rows := [[_], [_]]) ai25 .none rfl (.cons (.cint rfl) (.cons (.cint rfl) .nil)) rfl rfl rfl rfl rfl rfl rfl) ?_
 refine RK.c (S.mkData (rows := [[_], [_]]) ai25 .none rfl (.cons (.cint rfl) (.cons (.cint rfl) .nil)) rfl rfl rfl rfl rfl rfl rfl) ?_
 refine RK.c (S.mkData (rows := [[_], [_]]) ai179 .none rfl (.cons (.tmp rfl rfl) (.cons (.tmp rfl rfl) .nil)) rfl rfl rfl rfl rfl rfl rfl) ?_
 refine RK.c (S.call (law_Whole (l := [[13, 5], [11, 5]]) (by decide)) Tryz.call47 .none rfl (.cons (.tmp rfl rfl) .nil) rfl) ?_
 refine RK.c (S.mkData (rows := [[_], [_], [_]]) ai63 .none rfl (.cons (.tmp rfl rfl) (.cons (.tmp rfl rfl) (.cons (.tmp rfl rfl) .nil))) rfl rfl rfl rfl rfl rfl rfl) ?_
 refine RK.c (S.assign .none rfl (.tmp rfl rfl)) ?_
 refine RK.nil (Ab.D.code ?_)
 refine OK.ret (Ret.r1 (.tmp rfl rfl (.c (.same rfl) rfl) rfl) ?_)
 rfl
end Go.Proofs.YtpmglnphhhlbdaaGreatDoor
namespace Go.Proofs.YtpmglnphhhlbdaaGreatDoor
open Go.Ab
theorem ct_res {P : Program} {f : Nat} {args : List X} {r r' : X} (h : Ct P f args r) (e : r = r') : Ct P f args r' := e ▸ h
theorem tup2 {a a' : X} {e e' : Int} (h1 : a = a') (h2 : e = e') : X.tup [a, .int .i64 e] = X.tup [a', .int .i64 e'] := by rw [h1, h2]
theorem sorted_eq {l m : List Int} (hp : m.Perm l) (hs : m.Pairwise (fun x y => x ≤ y)) : sorted l = m := by
  unfold sorted
  have h1 : (l.mergeSort fun x y => decide (x ≤ y)).Pairwise (fun x y => x ≤ y) := by
    have := List.pairwise_mergeSort (le := fun x y : Int => decide (x ≤ y)) (by intro a b c h1 h2; simp only [decide_eq_true_eq] at *; omega) (by intro a b; simp only [Bool.or_eq_true, decide_eq_true_eq]; omega) l
    exact this.imp (by simp)
  exact ((List.mergeSort_perm l _).trans hp.symm).eq_of_pairwise (fun a b _ _ h1 h2 => by omega) h1 hs
theorem col_00 : sorted (col recsE 0 0) = [10, 11, 13] := sorted_eq (by decide) (by decide)
theorem col_01 : sorted (col recsE 0 1) = [5, 5, 6] := sorted_eq (by decide) (by decide)
theorem col_10 : sorted (col recsE 1 0) = [11, 12, 12] := sorted_eq (by decide) (by decide)
theorem col_11 : sorted (col recsE 1 1) = [4, 5, 5] := sorted_eq (by decide) (by decide)
theorem envE_eq : envOf planE recsE 0 = envE := by
  have e0 : envErr planE recsE 0 = 0 := by decide +kernel
  rw [envOf, if_pos e0, envT]
  have r2 : planE.ticks.toNat = 2 := rfl
  have r3 : planE.channels.length = 2 := rfl
  simp only [rowT, r2, r3, show List.range 2 = [0, 1] from rfl, List.map_cons, List.map_nil, rangeT, col_00, col_01, col_10, col_11]
  rfl
theorem spoiltE_eq : spoilt passesE [4] = [7, 8] := by
  have h : (hits [4] passesE).mergeSort (fun x y => decide (x ≤ y)) = [7, 8] := sorted_eq (l := hits [4] passesE) (by decide) (by decide)
  rw [spoilt, h]
  decide +kernel
theorem aw_env : Ct Tryz.prog 32 [.agg planE.cs, .sl (recsE.map Record.cs), .int .i64 0] (.tup [.agg envE.cs, .int .i64 0]) :=
  ct_res (mon_EnvelopeOf (p := planE) (l := recsE) (trim := 0)) (tup2 (congrArg (fun x : Envelope => X.agg x.cs) envE_eq) (by decide +kernel))
theorem aw_devs : Ct Tryz.prog 41 [.agg planE.cs, .agg envE.cs, .agg recE.cs] (.tup [devs [⟨0, 0, 1⟩, ⟨1, 0, -1⟩], .int .i64 0]) :=
  ct_res (mon_DeviationsOf (p := planE) (x := envE) (r := recE)) (tup2 (congrArg devs (by decide +kernel)) (by decide +kernel))
theorem aw_bound : Ct Tryz.prog 48 [.agg planE.cs, .int .i64 20, .int .i64 0] (.tup [.agg (Frac.cs ⟨8, 21⟩), .int .i64 0]) :=
  ct_res (mon_AlarmBound (p := planE) (parts := 20) (trim := 0)) (tup2 (congrArg (fun x : Frac => X.agg x.cs) (by decide +kernel)) (by decide +kernel))
theorem aw_spoilt : Ct Tryz.prog 49 [.sl (passesE.map Pass.cs), ints [4]] (.tup [ints [7, 8], .int .i64 0]) :=
  ct_res (mon_SpoiltBy (l := passesE) (ticks := [4])) (tup2 (congrArg ints (by rw [if_pos (by decide +kernel), spoiltE_eq])) (by decide +kernel))
theorem aw_drift : Ct Tryz.prog 50 [.agg ruleE.cs, ints [10, 13, 13, 9]] (.tup [.int .i64 2, .int .i64 1, .int .i64 0]) :=
  ct_res (mon_FirstDrift (r := ruleE) (l := [10, 13, 13, 9])) (congrArg triple (show driftT ruleE [10, 13, 13, 9] = (2, 1, 0) by decide +kernel))
theorem aw_same : Ct Tryz.prog 26 [.agg envE.cs, .agg envE.cs] (.bool true) := ct_res (ref_SameEnvelope (a := envE) (b := envE)) (by rw [decide_eq_true rfl])
theorem aw_samed : Ct Tryz.prog 51 [devs [⟨0, 0, 1⟩, ⟨1, 0, -1⟩], devs [⟨0, 0, 1⟩, ⟨1, 0, -1⟩]] (.bool true) := ct_res (ref_SameDeviations (a := [⟨0, 0, 1⟩, ⟨1, 0, -1⟩]) (b := [⟨0, 0, 1⟩, ⟨1, 0, -1⟩])) (by rw [decide_eq_true rfl])
theorem aw_ints : Ct Tryz.prog 52 [ints [7, 8], ints [7, 8]] (.bool true) := ct_res (base_Ints (a := [7, 8]) (b := [7, 8])) (by rw [decide_eq_true rfl])
theorem law_awake  : Ct Tryz.prog 5 [] (.bool true) := by
 refine Ct.intro (rs := [.tmp 0]) Tryz.func5 rfl Tryz.ntmps5 Tryz.results5 rfl rfl rfl fun w h => ?_
 refine OK.seq (OK.reg ?_)
 refine RK.c (S.assign .none rfl .cbool) ?_
 refine RK.nil (Ab.D.code (OK.seq (OK.reg ?_)))
 refine RK.c (S.call (law_Plan) Tryz.call45 .none rfl .nil rfl) ?_
 refine RK.c (S.call (law_Records) Tryz.call46 .none rfl .nil rfl) ?_
 refine RK.c (S.call (aw_env) Tryz.call32 .none rfl (.cons (.tmp rfl rfl) (.cons (.tmp rfl rfl) (.cons (.cint rfl) .nil))) rfl) ?_
 refine RK.c (S.move .none rfl (.tmp rfl rfl)) ?_
 refine RK.c (S.extract .none rfl (.tmp rfl rfl) rfl rfl) ?_
 refine RK.c (S.extract .none rfl (.tmp rfl rfl) rfl rfl) ?_
 refine RK.c (S.alloc (k := 1) ze30 rfl .none rfl) ?_
 refine RK.c (S.store ti30 .none (.tmp rfl rfl) (.tmp rfl rfl) rfl rfl rfl rfl rfl rfl) ?_
 refine RK.c (S.assign .none rfl (.tmp rfl rfl)) ?_
 refine RK.nil (Ab.D.code ?_)
 refine OK.seq ?_
 refine OK.regionDraw follows (.c (S.call (law_Plan) Tryz.call45 .none rfl .nil rfl)
  (.c (S.bloadN ti30 .none rfl (.tmp rfl rfl) rfl rfl rfl rfl)
  (.c (S.mkData (rows := [[_], [_]]) ai25 .none rfl (.cons (.cint rfl) (.cons (.cint rfl) .nil)) rfl rfl rfl rfl rfl rfl rfl)
  (.c (S.mkData (rows := [[_], [_]]) ai25 .none rfl (.cons (.cint rfl) (.cons (.cint rfl) .nil)) rfl rfl rfl rfl rfl rfl rfl)
  (.c (S.mkData (rows := [[_], [_]]) ai179 .none rfl (.cons (.tmp rfl rfl) (.cons (.tmp rfl rfl) .nil)) rfl rfl rfl rfl rfl rfl rfl)
  (.c (S.call (law_Whole (l := [[14, 5], [10, 5]]) (by decide)) Tryz.call47 .none rfl (.cons (.tmp rfl rfl) .nil) rfl)
  (.c (S.call (aw_devs) Tryz.call41 .none rfl (.cons (.tmp rfl rfl) (.cons (.tmp rfl rfl) (.cons (.tmp rfl rfl) .nil))) rfl)
  (.c (S.move .none rfl (.tmp rfl rfl))
  (.c (S.extract .none rfl (.tmp rfl rfl) rfl rfl)
  (.c (S.extract .none rfl (.tmp rfl rfl) rfl rfl)
  (.c (S.assign .none rfl (.tmp rfl rfl))
  (.c (S.assign .none rfl (.tmp rfl rfl))
  .nil)))))))))))) (by kernel_rfl) ?_
 refine Ab.D.code (OK.seq (OK.reg ?_))
 refine RK.c (S.call (law_Plan) Tryz.call45 .none rfl .nil rfl) ?_
 refine RK.c (S.call (aw_bound) Tryz.call48 .none rfl (.cons (.tmp rfl rfl) (.cons (.cint rfl) (.cons (.cint rfl) .nil))) rfl) ?_
 refine RK.c (S.move .none rfl (.tmp rfl rfl)) ?_
 refine RK.c (S.extract .none rfl (.tmp rfl rfl) rfl rfl) ?_
 refine RK.c (S.extract .none rfl (.tmp rfl rfl) rfl rfl) ?_
 refine RK.c (S.alloc (k := 5) ze101 rfl .none rfl) ?_
 refine RK.c (S.store ti101 .none (.tmp rfl rfl) (.tmp rfl rfl) rfl rfl rfl rfl rfl rfl) ?_
 refine RK.c (S.assign .none rfl (.tmp rfl rfl)) ?_
 refine RK.nil (Ab.D.code (OK.seq (OK.reg ?_)))
 refine RK.c (S.build bu106 rfl .none rfl (.cons (.cint rfl) (.cons (.cint rfl) .nil)) rfl rfl) ?_
 refine RK.c (S.build bu106 rfl .none rfl (.cons (.cint rfl) (.cons (.cint rfl) (.cons (.cint rfl) .nil))) rfl rfl) ?_
 refine RK.c (S.mkData (rows := [[_, _, _], [_, _, _]]) ai107 .none rfl (.cons (.tmp rfl rfl) (.cons (.tmp rfl rfl) .nil)) rfl rfl rfl rfl rfl rfl rfl) ?_
 refine RK.c (S.mkData (rows := [[_]]) ai25 .none rfl (.cons (.cint rfl) .nil) rfl rfl rfl rfl rfl rfl rfl) ?_
 refine RK.c (S.call (aw_spoilt) Tryz.call49 .none rfl (.cons (.tmp rfl rfl) (.cons (.tmp rfl rfl) .nil)) rfl) ?_
 refine RK.c (S.move .none rfl (.tmp rfl rfl)) ?_
 refine RK.c (S.extract .none rfl (.tmp rfl rfl) rfl rfl) ?_
 refine RK.c (S.extract .none rfl (.tmp rfl rfl) rfl rfl) ?_
 refine RK.c (S.assign .none rfl (.tmp rfl rfl)) ?_
 refine RK.c (S.assign .none rfl (.tmp rfl rfl)) ?_
 refine RK.nil (Ab.D.code (OK.seq (OK.reg ?_)))
 refine RK.c (S.build bu111 rfl .none rfl (.cons (.cint rfl) (.cons (.cint rfl) (.cons (.cint rfl) .nil))) rfl rfl) ?_
 refine RK.c (S.mkData (rows := [[_], [_], [_], [_]]) ai25 .none rfl (.cons (.cint rfl) (.cons (.cint rfl) (.cons (.cint rfl) (.cons (.cint rfl) .nil)))) rfl rfl rfl rfl rfl rfl rfl) ?_
 refine RK.c (S.call (aw_drift) Tryz.call50 .none rfl (.cons (.tmp rfl rfl) (.cons (.tmp rfl rfl) .nil)) rfl) ?_
 refine RK.c (S.move .none rfl (.tmp rfl rfl)) ?_
 refine RK.c (S.extract .none rfl (.tmp rfl rfl) rfl rfl) ?_
 refine RK.c (S.extract .none rfl (.tmp rfl rfl) rfl rfl) ?_
 refine RK.c (S.extract .none rfl (.tmp rfl rfl) rfl rfl) ?_
 refine RK.c (S.assign .none rfl (.tmp rfl rfl)) ?_
 refine RK.c (S.assign .none rfl (.tmp rfl rfl)) ?_
 refine RK.c (S.assign .none rfl (.tmp rfl rfl)) ?_
 refine RK.nil (Ab.D.code (OK.seq (OK.reg ?_)))
 refine RK.c (S.move .none rfl (.tmp rfl rfl)) ?_
 refine RK.c (S.eql .none rfl (.tmp rfl rfl) (.cint rfl)) ?_
 refine RK.c (S.move .none rfl (.tmp rfl rfl)) ?_
 refine RK.c (S.bloadN ti30 (.yes rfl rfl rfl rfl) rfl (.tmp rfl rfl) rfl rfl rfl rfl) ?_
 refine RK.c (S.build bu113 rfl (.yes rfl rfl rfl rfl) rfl (.cons (.cint rfl) (.cons (.cint rfl) .nil)) rfl rfl) ?_
 refine RK.c (S.build bu113 rfl (.yes rfl rfl rfl rfl) rfl (.cons (.cint rfl) (.cons (.cint rfl) .nil)) rfl rfl) ?_
 refine RK.c (S.mkData (rows := [[_, _], [_, _]]) ai114 (.yes rfl rfl rfl rfl) rfl (.cons (.tmp rfl rfl) (.cons (.tmp rfl rfl) .nil)) rfl rfl rfl rfl rfl rfl rfl) ?_
 refine RK.c (S.build bu113 rfl (.yes rfl rfl rfl rfl) rfl (.cons (.cint rfl) (.cons (.cint rfl) .nil)) rfl rfl) ?_
 refine RK.c (S.build bu113 rfl (.yes rfl rfl rfl rfl) rfl (.cons (.cint rfl) (.cons (.cint rfl) .nil)) rfl rfl) ?_
 refine RK.c (S.mkData (rows := [[_, _], [_, _]]) ai114 (.yes rfl rfl rfl rfl) rfl (.cons (.tmp rfl rfl) (.cons (.tmp rfl rfl) .nil)) rfl rfl rfl rfl rfl rfl rfl) ?_
 refine RK.c (S.mkData (rows := [[_], [_]]) ai28 (.yes rfl rfl rfl rfl) rfl (.cons (.tmp rfl rfl) (.cons (.tmp rfl rfl) .nil)) rfl rfl rfl rfl rfl rfl rfl) ?_
 refine RK.c (S.build bu30 rfl (.yes rfl rfl rfl rfl) rfl (.cons (.cint rfl) (.cons (.tmp rfl rfl) .nil)) rfl rfl) ?_
 refine RK.c (S.call (aw_same) Tryz.call26 (.yes rfl rfl rfl rfl) rfl (.cons (.tmp rfl rfl) (.cons (.tmp rfl rfl) .nil)) rfl) ?_
 refine RK.c (S.pickT .none rfl (.tmp rfl rfl) (.tmp rfl rfl) rfl) ?_
 refine RK.c (S.move .none rfl (.tmp rfl rfl)) ?_
 refine RK.c (S.move (.yes rfl rfl rfl rfl) rfl (.tmp rfl rfl)) ?_
 refine RK.c (S.eql (.yes rfl rfl rfl rfl) rfl (.tmp rfl rfl) (.cint rfl)) ?_
 refine RK.c (S.pickT .none rfl (.tmp rfl rfl) (.tmp rfl rfl) rfl) ?_
 refine RK.c (S.move .none rfl (.tmp rfl rfl)) ?_
 refine RK.c (S.move (.yes rfl rfl rfl rfl) rfl (.tmp rfl rfl)) ?_
 refine RK.c (S.build bu117 rfl (.yes rfl rfl rfl rfl) rfl (.cons (.cint rfl) .nil) rfl rfl) ?_
 refine RK.c (S.build bu117 rfl (.yes rfl rfl rfl rfl) rfl (.cons (.cint rfl) (.cons (.cint rfl) .nil)) rfl rfl) ?_
 refine RK.c (S.mkData (rows := [[_, _, _], [_, _, _]]) ai85 (.yes rfl rfl rfl rfl) rfl (.cons (.tmp rfl rfl) (.cons (.tmp rfl rfl) .nil)) rfl rfl rfl rfl rfl rfl rfl) ?_
 refine RK.c (S.call (aw_samed) Tryz.call51 (.yes rfl rfl rfl rfl) rfl (.cons (.tmp rfl rfl) (.cons (.tmp rfl rfl) .nil)) rfl) ?_
 refine RK.c (S.pickT .none rfl (.tmp rfl rfl) (.tmp rfl rfl) rfl) ?_
 refine RK.c (S.move .none rfl (.tmp rfl rfl)) ?_
 refine RK.c (S.move (.yes rfl rfl rfl rfl) rfl (.tmp rfl rfl)) ?_
 refine RK.c (S.eql (.yes rfl rfl rfl rfl) rfl (.tmp rfl rfl) (.cint rfl)) ?_
 refine RK.c (S.pickT .none rfl (.tmp rfl rfl) (.tmp rfl rfl) rfl) ?_
 refine RK.c (S.move .none rfl (.tmp rfl rfl)) ?_
 refine RK.c (S.bloadN ti101 (.yes rfl rfl rfl rfl) rfl (.tmp rfl rfl) rfl rfl rfl rfl) ?_
 refine RK.c (S.build bu101 rfl (.yes rfl rfl rfl rfl) rfl (.cons (.cint rfl) (.cons (.cint rfl) .nil)) rfl rfl) ?_
 refine RK.c (S.aeql [8, 21] [8, 21] eq101 (.yes rfl rfl rfl rfl) rfl (.tmp rfl rfl) (.tmp rfl rfl) rfl rfl rfl rfl) ?_
 refine RK.c (S.pickT .none rfl (.tmp rfl rfl) (.tmp rfl rfl) rfl) ?_
 refine RK.c (S.move .none rfl (.tmp rfl rfl)) ?_
 refine RK.c (S.move (.yes rfl rfl rfl rfl) rfl (.tmp rfl rfl)) ?_
 refine RK.c (S.eql (.yes rfl rfl rfl rfl) rfl (.tmp rfl rfl) (.cint rfl)) ?_
 refine RK.c (S.pickT .none rfl (.tmp rfl rfl) (.tmp rfl rfl) rfl) ?_
 refine RK.c (S.move .none rfl (.tmp rfl rfl)) ?_
 refine RK.c (S.move (.yes rfl rfl rfl rfl) rfl (.tmp rfl rfl)) ?_
 refine RK.c (S.mkData (rows := [[_], [_]]) ai25 (.yes rfl rfl rfl rfl) rfl (.cons (.cint rfl) (.cons (.cint rfl) .nil)) rfl rfl rfl rfl rfl rfl rfl) ?_
 refine RK.c (S.call (aw_ints) Tryz.call52 (.yes rfl rfl rfl rfl) rfl (.cons (.tmp rfl rfl) (.cons (.tmp rfl rfl) .nil)) rfl) ?_
 refine RK.c (S.pickT .none rfl (.tmp rfl rfl) (.tmp rfl rfl) rfl) ?_
 refine RK.c (S.move .none rfl (.tmp rfl rfl)) ?_
 refine RK.c (S.move (.yes rfl rfl rfl rfl) rfl (.tmp rfl rfl)) ?_
 refine RK.c (S.eql (.yes rfl rfl rfl rfl) rfl (.tmp rfl rfl) (.cint rfl)) ?_
 refine RK.c (S.pickT .none rfl (.tmp rfl rfl) (.tmp rfl rfl) rfl) ?_
 refine RK.c (S.move .none rfl (.tmp rfl rfl)) ?_
 refine RK.c (S.move (.yes rfl rfl rfl rfl) rfl (.tmp rfl rfl)) ?_
 refine RK.c (S.eql (.yes rfl rfl rfl rfl) rfl (.tmp rfl rfl) (.cint rfl)) ?_
 refine RK.c (S.pickT .none rfl (.tmp rfl rfl) (.tmp rfl rfl) rfl) ?_
 refine RK.c (S.move .none rfl (.tmp rfl rfl)) ?_
 refine RK.c (S.move (.yes rfl rfl rfl rfl) rfl (.tmp rfl rfl)) ?_
 refine RK.c (S.eql (.yes rfl rfl rfl rfl) rfl (.tmp rfl rfl) (.cint rfl)) ?_
 refine RK.c (S.pickT .none rfl (.tmp rfl rfl) (.tmp rfl rfl) rfl) ?_
 refine RK.c (S.assign .none rfl (.tmp rfl rfl)) ?_
 refine RK.nil (Ab.D.code ?_)
 refine OK.ret (Ret.r1 (.tmp rfl rfl (.c (.same rfl) rfl) rfl) ?_)
 rfl
end Go.Proofs.YtpmglnphhhlbdaaGreatDoor
