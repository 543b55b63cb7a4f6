/-
  Alarms: the bound, the alarms among records, by both texts.
-/
import Derived.Test.YtmokilkombplkaaGreatSh
import Derived.Test.YtmokilkombplkaaGreatFu
import Derived.Test.YtmokilkombplkaaGreatGr
import Derived.Test.YtmokilkombplkaaGreatWw
namespace Go.Proofs.YtmokilkombplkaaGreat
open Go.Ab

theorem lk_own1 {k n n' : Nat} (h : n = n') : some (X.own k n) = some (X.own k n') := by rw [h]
/-- All records but one. -/
def others (l : List Record) (i : Nat) : List Record := l.take i ++ l.drop (i + 1)
theorem others_len {l : List Record} {i : Nat} (h : i < l.length) : (others l i).length = l.length - 1 := by simp [others]; omega
theorem others_mem {l : List Record} {i : Nat} {r : Record} (h : r ∈ others l i) : r ∈ l := by
  rcases List.mem_append.1 h with h | h
  · exact List.mem_of_mem_take h
  · exact List.mem_of_mem_drop h
theorem learn_others {p : Plan} {l : List Record} (h : LearnT p l) {i : Nat} (hi : i < l.length) (h2 : 2 ≤ l.length) : LearnT p (others l i) where
  plan := h.plan
  len := by rw [others_len hi]; have := h.len; omega
  chk := fun k hk => by
    obtain ⟨j, hj, e⟩ := List.getElem_of_mem (others_mem (List.getElem_mem hk))
    rw [← e]; exact h.chk j hj
  whole := ⟨fun k hk => by
    obtain ⟨j, hj, e⟩ := List.getElem_of_mem (others_mem (List.getElem_mem hk))
    have := h.whole.rows j hj
    rw [e] at this
    exact this, fun k hk t ht => by
    obtain ⟨j, hj, e⟩ := List.getElem_of_mem (others_mem (List.getElem_mem hk))
    have := h.whole.vals j hj
    rw [e] at this
    exact this t ht⟩
theorem learn_both {p : Plan} {l m : List Record} {trim : Int} (h : LearnT p m) (ht : trimErr trim m.length = 0) (hl : LearnT p l) {i : Nat} (hi : i < l.length) : BothT p (envT p m trim) l[i] := by
  refine both_of ?_
  unfold bothErr
  rw [h.plan, learn_valid h ht]
  simp [(hl.chk i hi).1]
def isAl (p : Plan) (l : List Record) (trim : Int) (i : Nat) : Bool := decide ((devT (envT p (others l i) trim) (l.getD i ⟨[]⟩)).length ≠ 0)
def alUp (p : Plan) (l : List Record) (trim : Int) (n : Nat) : List Int := ((List.range n).filter (isAl p l trim)).map fun (i : Nat) => (i : Int)
theorem alUp_T {p : Plan} {l : List Record} {trim : Int} {n : Nat} (h : isAl p l trim n = true) : alUp p l trim n ++ [(n : Int)] = alUp p l trim (n + 1) := by
  simp [alUp, List.range_succ, List.filter_append, h]
theorem alUp_F {p : Plan} {l : List Record} {trim : Int} {n : Nat} (h : isAl p l trim n = false) : alUp p l trim n = alUp p l trim (n + 1) := by
  simp [alUp, List.range_succ, List.filter_append, h]
theorem alUp_len (p : Plan) (l : List Record) (trim : Int) (n : Nat) : (alUp p l trim n).length ≤ n := by
  have := List.length_filter_le (isAl p l trim) (List.range n)
  simpa [alUp] using this
def alErr (p : Plan) (l : List Record) (trim : Int) : Int := if openRecs p l ≠ 0 then openRecs p l else if l.length = 1 then 12 else trimErr trim ((l.length : Int) - 1)
theorem flat_take {α : Type} (ls : List (List α)) (i : Nat) : (ls.take i).flatten.length ≤ ls.flatten.length := by
  have h : ls.flatten = (ls.take i).flatten ++ (ls.drop i).flatten := by rw [← List.flatten_append, List.take_append_drop]
  rw [h, List.length_append]
  omega
theorem flat_snoc {α : Type} {ls : List (List α)} {i : Nat} (h : i < ls.length) : (ls.take (i + 1)).flatten = (ls.take i).flatten ++ ls[i] := by
  rw [← take_snoc h, List.flatten_append]
  simp
def oth (l : List Record) (i k : Nat) : List Record := (l.take k).take i ++ (l.take k).drop (i + 1)
theorem oth_ne {l : List Record} {i k : Nat} (h : k < l.length) (hn : (k : Int) ≠ i) : oth l i k ++ [l[k]] = oth l i (k + 1) := by
  unfold oth
  rw [← take_snoc h]
  have hl : (l.take k).length = k := by simp; omega
  rcases Nat.lt_or_ge k i with h1 | h1
  · rw [List.take_of_length_le (l := l.take k) (by omega), List.drop_of_length_le (l := l.take k) (by omega), List.take_of_length_le (l := l.take k ++ [l[k]]) (by simp; omega), List.drop_of_length_le (l := l.take k ++ [l[k]]) (by simp; omega)]
    simp
  · have h2 : i < k := by omega
    rw [List.take_append_of_le_length (by omega), List.drop_append_of_le_length (by omega), List.append_assoc]
theorem oth_eq {l : List Record} {i k : Nat} (h : k < l.length) (hn : ¬ (k : Int) ≠ i) : oth l i k = oth l i (k + 1) := by
  have : k = i := by omega
  subst this
  unfold oth
  rw [← take_snoc h]
  have hl : (l.take k).length = k := by simp; omega
  rw [List.take_append_of_le_length (by omega), List.drop_of_length_le (l := l.take k) (by omega), List.drop_of_length_le (l := l.take k ++ [l[k]]) (by simp; omega)]
theorem oth_all (l : List Record) (i : Nat) : oth l i l.length = others l i := by rw [oth, List.take_length, others]
theorem oth_len (l : List Record) (i k : Nat) : (oth l i k).length ≤ 2 * l.length := by
  simp only [oth, List.length_append, List.length_take, List.length_drop]
  omega

theorem concat_rec {ls : List (List Record)} (h0 : 0 < ls.flatten.length) (hlen : ls.flatten.length ≤ 100000) (hl : ls.length ≤ 1000) : Ct Tryz.prog 43 [.sl (ls.map (fun m => [X.sl (m.map Record.cs)]))] (.sl (ls.flatten.map Record.cs)) := by
  refine Ct.intro (rs := [.tmp 2]) Tryz.func43 rfl Tryz.ntmps43 Tryz.results43 rfl rfl rfl fun w h => ?_
  refine OK.seq ?_
  refine OK.reg ?_
  refine RK.c (S.assign .none rfl .cnil) ?_
  refine RK.nil ?_
  refine Ab.D.code ?_
  refine OK.seq ?_
  refine OK.reg ?_
  refine RK.c (S.assign .none rfl (.cint rfl)) ?_
  refine RK.nil ?_
  refine Ab.D.code ?_
  refine OK.seq ?_
  refine OK.seq ?_
  refine OK.reg ?_
  refine RK.c (S.move .none rfl (.tmp rfl rfl)) ?_
  refine RK.c (S.lenM si131 .none rfl (.tmp rfl rfl)) ?_
  refine RK.c (S.move .none rfl (.cint rfl)) ?_
  refine RK.nil ?_
  refine Ab.D.code ?_
  refine OK.block ?_
  refine OK.loop (G := Nat) [] (fun i => [(0, .sl (ls.map (fun m => [X.sl (m.map Record.cs)]))), (3, .int .i64 (ls.take i).flatten.length), (9, .sl (ls.map (fun m => [X.sl (m.map Record.cs)]))), (10, .int .i64 ls.length), (11, .int .i64 i)]) (fun i => i ≤ ls.length) (fun i => ls.length - i) 0 (Nat.zero_le _) ⟨rfl, rfl, rfl, rfl, rfl, trivial⟩ (fun _ => rfl) ?_
  rintro i hi
  refine OK.seq ?_
  refine OK.reg ?_
  refine RK.c (S.lss .none rfl (.tmp rfl rfl) (.tmp rfl rfl)) ?_
  refine RK.nil ?_
  refine Ab.D.code ?_
  refine OK.seq ?_
  refine OK.condD rfl rfl (fun c12 => ?_) (fun c12 => ?_)
  ·
    have hfl := flat_take ls (i + 1)
    rw [flat_snoc (by omega), List.length_append] at hfl
    refine OK.skip ?_
    refine Ab.D.code ?_
    refine OK.seq ?_
    refine OK.block ?_
    refine OK.seq ?_
    refine OK.reg ?_
    refine RK.c (S.indexM si131 .none rfl (.tmp rfl rfl) (.tmp rfl rfl) rfl (by omega) rfl) ?_
    refine RK.c (S.load1 ti26 .none rfl (.tmp rfl rfl) rfl) ?_
    refine RK.c (S.assign .none rfl (.tmp rfl rfl)) ?_
    refine RK.nil ?_
    refine Ab.D.code ?_
    refine OK.seq ?_
    refine OK.reg ?_
    refine RK.c (S.move .none rfl (.tmp rfl rfl)) ?_
    refine RK.c (S.move .none rfl (.tmp rfl rfl)) ?_
    refine RK.c (S.lenM si26 .none rfl (.tmp rfl rfl)) ?_
    refine RK.c (S.add (q := ((ls.take i).flatten.length + ls[i].length : Int)) .none rfl (.tmp rfl rfl) (.tmp rfl rfl) (IntWalk.i64_in _ (by omega)) (IntWalk.i64_in _ (by omega))) ?_
    refine RK.c (S.assign .none rfl (.tmp rfl rfl)) ?_
    refine RK.nil ?_
    refine Ab.D.code ?_
    refine OK.seq ?_
    refine OK.reg ?_
    refine RK.c (S.move .none rfl (.tmp rfl rfl)) ?_
    refine RK.c (S.lss .none rfl (.tmp rfl rfl) (.cint rfl)) ?_
    refine RK.nil ?_
    refine Ab.D.code ?_
    refine OK.condD rfl rfl (fun c20 => ?_) (fun c20 => ?_)
    ·
      exfalso
      omega
    ·
      refine OK.skip ?_
      refine Ab.D.blk ?_
      refine Ab.D.code ?_
      refine OK.reg ?_
      refine RK.c (S.add .none rfl (.tmp rfl rfl) (.cint rfl) (IntWalk.i64_in _ (by omega)) (IntWalk.i64_in _ (by omega))) ?_
      refine RK.c (S.move .none rfl (.tmp rfl rfl)) ?_
      refine RK.nil ?_
      refine Ab.D.lp ⟨i + 1, (by omega), (by omega), rfl, (lk_int1 (by rw [flat_snoc (by omega), List.length_append]; omega)), rfl, rfl, rfl, trivial⟩
  ·
    have hfi : (ls.take i).flatten = ls.flatten := by rw [show i = ls.length by omega, List.take_length]
    refine OK.exit rfl ?_
    refine Ab.D.code ?_
    refine OK.seq ?_
    refine OK.reg ?_
    refine RK.c (S.move .none rfl (.tmp rfl rfl)) ?_
    refine RK.c (S.growNil (k := 24) (n := (ls.take i).flatten.length) (growsNil_of Tryz.grow_70 ai26 rfl rfl) Tryz.call70 .none rfl (.tmp rfl rfl) rfl (by rw [hfi]; exact h0) (by rw [hfi]; omega) (by rw [hfi]; omega)) ?_
    refine RK.c (S.assign .none rfl (.tmp rfl rfl)) ?_
    refine RK.nil ?_
    refine Ab.D.code ?_
    refine OK.seq ?_
    refine OK.seq ?_
    refine OK.reg ?_
    refine RK.c (S.move .none rfl (.tmp rfl rfl)) ?_
    refine RK.c (S.lenM si131 .none rfl (.tmp rfl rfl)) ?_
    refine RK.c (S.move .none rfl (.cint rfl)) ?_
    refine RK.nil ?_
    refine Ab.D.code ?_
    refine OK.block ?_
    refine OK.loop (G := Nat) [24] (fun j => [(6, .own 24 (ls.take j).flatten.length), (2024, .arr 1 ((ls.take j).flatten.map Record.cs)), (25, .sl (ls.map (fun m => [X.sl (m.map Record.cs)]))), (26, .int .i64 ls.length), (27, .int .i64 j)]) (fun j => j ≤ ls.length) (fun j => ls.length - j) 0 (Nat.zero_le _) ⟨(lk_own (by first | rfl | (simp; done) | (simp; omega))), (lk_arr (by first | rfl | (simp; done) | (simp; omega))), rfl, rfl, rfl, trivial⟩ (fun _ => rfl) ?_
    rintro j hj
    refine OK.seq ?_
    refine OK.reg ?_
    refine RK.c (S.lss .none rfl (.tmp rfl rfl) (.tmp rfl rfl)) ?_
    refine RK.nil ?_
    refine Ab.D.code ?_
    refine OK.seq ?_
    refine OK.condD rfl rfl (fun c28 => ?_) (fun c28 => ?_)
    ·
      have hfl := flat_take ls (j + 1)
      rw [flat_snoc (by omega), List.length_append] at hfl
      refine OK.skip ?_
      refine Ab.D.code ?_
      refine OK.seq ?_
      refine OK.block ?_
      refine OK.seq ?_
      refine OK.reg ?_
      refine RK.c (S.indexM si131 .none rfl (.tmp rfl rfl) (.tmp rfl rfl) rfl (by omega) rfl) ?_
      refine RK.c (S.load1 ti26 .none rfl (.tmp rfl rfl) rfl) ?_
      refine RK.c (S.assign .none rfl (.tmp rfl rfl)) ?_
      refine RK.nil ?_
      refine Ab.D.code ?_
      refine OK.reg ?_
      refine RK.c (S.move .none rfl (.tmp rfl rfl)) ?_
      refine RK.c (S.move .none rfl (.tmp rfl rfl)) ?_
      refine RK.c (S.appendSl ai26 .none rfl (.tmp rfl rfl) rfl (by rw [List.length_map]) (.tmp rfl rfl) (by intro q hq; obtain ⟨b, _, rfl⟩ := List.mem_map.1 hq; rfl) (by rw [List.length_map]) (by omega) (by unfold maxLen; omega)) ?_
      refine RK.c (S.assign .none rfl (.tmp rfl rfl)) ?_
      refine RK.nil ?_
      refine Ab.D.blk ?_
      refine Ab.D.code ?_
      refine OK.reg ?_
      refine RK.c (S.add .none rfl (.tmp rfl rfl) (.cint rfl) (IntWalk.i64_in _ (by omega)) (IntWalk.i64_in _ (by omega))) ?_
      refine RK.c (S.move .none rfl (.tmp rfl rfl)) ?_
      refine RK.nil ?_
      refine Ab.D.lp ⟨j + 1, (by omega), (by omega), (lk_own1 (by rw [flat_snoc (by omega), List.length_append])), (lk_arr (by rw [flat_snoc (by omega), List.map_append])), rfl, rfl, rfl, trivial⟩
    ·
      refine OK.exit rfl ?_
      refine Ab.D.code ?_
      refine OK.seq ?_
      refine OK.freeze 6 rfl rfl rfl (by simp only [List.length_map]) ?_
      refine OK.reg ?_
      refine RK.c (S.move .none rfl (.tmp rfl rfl)) ?_
      refine RK.c (S.assign .none rfl (.tmp rfl rfl)) ?_
      refine RK.nil ?_
      refine Ab.D.code ?_
      refine OK.ret (Ret.r1 (.tmp rfl rfl (.c (.same rfl) rfl) rfl) ?_)
      rw [show j = ls.length by omega, List.take_length]

theorem mon_AlarmsAmong {p : Plan} {l : List Record} {trim : Int} : Ct Tryz.prog 16 [.agg p.cs, .sl (l.map Record.cs), .int .i64 trim] (.tup [ints (if alErr p l trim = 0 then alUp p l trim l.length else []), .int .i64 (alErr p l trim)]) := by
  refine Ct.intro (rs := [.tmp 6, .tmp 7]) Tryz.func16 rfl Tryz.ntmps16 Tryz.results16 rfl rfl rfl fun w h => ?_
  refine OK.slLen (rows := l.map Record.cs) (t := 1) rfl rfl fun hlen => ?_
  rw [List.length_map] at hlen
  unfold maxLen at hlen
  have hal : alErr p l trim = if openRecs p l ≠ 0 then openRecs p l else if l.length = 1 then 12 else trimErr trim ((l.length : Int) - 1) := rfl
  have hun : unlessE (decide ((l.length : Int) ≠ 1)) 12 = if l.length = 1 then 12 else 0 := by
    by_cases h : l.length = 1
    · rw [unlessE_not (by omega), if_pos h]
    · rw [unlessE_of (by omega), if_neg h]
  have hfe : firstE [openRecs p l, unlessE (decide ((l.length : Int) ≠ 1)) 12] = if openRecs p l ≠ 0 then openRecs p l else if l.length = 1 then 12 else 0 := by rw [firstE2, hun]
  refine OK.seq ?_
  refine OK.reg ?_
  refine RK.c (S.box (k := 3) rfl .none rfl (.tmp rfl rfl) rfl) ?_
  refine RK.c (S.assign .none rfl .cnil) ?_
  refine RK.c (S.assign .none rfl (.cint rfl)) ?_
  refine RK.nil ?_
  refine Ab.D.code ?_
  refine OK.seq ?_
  refine OK.reg ?_
  refine RK.c (S.bloadN ti24 .none rfl (.tmp rfl rfl) rfl rfl rfl rfl) ?_
  refine RK.c (S.move .none rfl (.tmp rfl rfl)) ?_
  refine RK.c (S.call (mon_openRecords) Tryz.call40 .none rfl (.cons (.tmp rfl rfl) (.cons (.tmp rfl rfl) .nil)) rfl) ?_
  refine RK.c (S.move .none rfl (.tmp rfl rfl)) ?_
  refine RK.c (S.extract .none rfl (.tmp rfl rfl) rfl rfl) ?_
  refine RK.c (S.extract .none rfl (.tmp rfl rfl) rfl rfl) ?_
  refine RK.c (S.alloc (k := 8) ze89 rfl .none rfl) ?_
  refine RK.c (S.store ti89 .none (.tmp rfl rfl) (.tmp rfl rfl) rfl rfl rfl rfl rfl rfl) ?_
  refine RK.c (S.assign .none rfl (.tmp rfl rfl)) ?_
  refine RK.nil ?_
  refine Ab.D.code ?_
  refine OK.seq ?_
  refine OK.seq ?_
  refine OK.reg ?_
  refine RK.c (S.move .none rfl (.tmp rfl rfl)) ?_
  refine RK.c (S.move .none rfl (.tmp rfl rfl)) ?_
  refine RK.c (S.lenM si26 .none rfl (.tmp rfl rfl)) ?_
  refine RK.c (S.neq .none rfl (.tmp rfl rfl) (.cint rfl)) ?_
  refine RK.c (S.call (monitor_unless) Tryz.call34 .none rfl (.cons (.tmp rfl rfl) (.cons (.cint rfl) .nil)) rfl) ?_
  refine RK.c (S.mkSlice (k := 25) (rows := [[_], [_]]) ai125 .none rfl (.cons (.tmp rfl rfl) (.cons (.tmp rfl rfl) .nil)) rfl rfl rfl rfl rfl rfl rfl) ?_
  refine RK.c (S.callL (monitor_first (l := [_, _])) Tryz.call33 .none rfl (.cons (.tmp rfl rfl) .nil) (.cons (.p (.own rfl rfl) rfl) .nil) rfl) ?_
  refine RK.c (S.assign .none rfl (.tmp rfl rfl)) ?_
  refine RK.nil ?_
  refine Ab.D.code ?_
  refine OK.seq ?_
  refine OK.reg ?_
  refine RK.c (S.move .none rfl (.tmp rfl rfl)) ?_
  refine RK.c (S.eql .none rfl (.tmp rfl rfl) (.cint rfl)) ?_
  refine RK.nil ?_
  refine Ab.D.code ?_
  refine OK.condD rfl rfl (fun c28 => ?_) (fun c28 => ?_)
  ·
    have hq : alErr p l trim = trimErr trim ((l.length : Int) - 1) := by omega
    have hopz : openRecs p l = 0 := by omega
    have hl20 := (openRecs_0 hopz).2.1
    refine OK.reg ?_
    refine RK.c (S.move .none rfl (.tmp rfl rfl)) ?_
    refine RK.c (S.move .none rfl (.tmp rfl rfl)) ?_
    refine RK.c (S.lenM si26 .none rfl (.tmp rfl rfl)) ?_
    refine RK.c (S.sub .none rfl (.tmp rfl rfl) (.cint rfl) (IntWalk.i64_in _ (by omega)) (IntWalk.i64_in _ (by omega))) ?_
    refine RK.c (S.call (mon_trimErr (by omega)) Tryz.call41 .none rfl (.cons (.tmp rfl rfl) (.cons (.tmp rfl rfl) .nil)) rfl) ?_
    refine RK.c (S.assign .none rfl (.tmp rfl rfl)) ?_
    refine RK.nil ?_
    refine Ab.D.code ?_
    refine OK.seq ?_
    refine OK.seq ?_
    refine OK.reg ?_
    refine RK.c (S.move .none rfl (.tmp rfl rfl)) ?_
    refine RK.c (S.neq .none rfl (.tmp rfl rfl) (.cint rfl)) ?_
    refine RK.nil ?_
    refine Ab.D.code ?_
    refine OK.condD rfl rfl (fun c35 => ?_) (fun c35 => ?_)
    ·
      refine OK.seq ?_
      refine OK.reg ?_
      refine RK.c (S.move .none rfl (.tmp rfl rfl)) ?_
      refine RK.c (S.assign .none rfl .cnil) ?_
      refine RK.c (S.assign .none rfl (.tmp rfl rfl)) ?_
      refine RK.nil ?_
      refine Ab.D.code ?_
      refine OK.ret (Ret.r2 (.tmp rfl rfl (.c (.same rfl) rfl) rfl) (.tmp rfl rfl (.c (.same rfl) rfl) rfl) ?_)
      rw [hq, if_neg (by omega)]
      rfl
    ·
      have he : alErr p l trim = 0 := by omega
      have hop : openRecs p l = 0 := by omega
      obtain ⟨q1, q2, q3⟩ := openRecs_0 hop
      have hrz : recsErr p l = 0 := by
        unfold openRecs at hop
        rwa [if_neg (by omega)] at hop
      have hL := learn_of q1 hrz
      have hl2 : 2 ≤ l.length := by omega
      have htz : trimErr trim ((l.length : Int) - 1) = 0 := by omega
      have htr := trimErr_0 (by omega) htz
      refine OK.skip ?_
      refine Ab.D.code ?_
      refine OK.seq ?_
      refine OK.reg ?_
      refine RK.c (S.nilOwn (k := 10) (sz := 1) .none rfl) ?_
      refine RK.nil ?_
      refine Ab.D.code ?_
      refine OK.seq ?_
      refine OK.seq ?_
      refine OK.reg ?_
      refine RK.c (S.move .none rfl (.tmp rfl rfl)) ?_
      refine RK.c (S.lenM si26 .none rfl (.tmp rfl rfl)) ?_
      refine RK.c (S.move .none rfl (.cint rfl)) ?_
      refine RK.nil ?_
      refine Ab.D.code ?_
      refine OK.block ?_
      refine OK.loop (G := Nat) [8, 10] (fun i => [(1, .sl (l.map Record.cs)), (2, .int .i64 trim), (8, .ptr 8 0), (1008, .box p.cs), (10, .own 10 (alUp p l trim i).length), (2010, .arr 1 ((alUp p l trim i).map fun n => [.int .i64 n])), (37, .sl (l.map Record.cs)), (38, .int .i64 l.length), (39, .int .i64 i)]) (fun i => i ≤ l.length) (fun i => l.length - i) 0 (Nat.zero_le _) ⟨rfl, rfl, rfl, rfl, (lk_own (by first | rfl | (simp; done) | (simp; omega))), (lk_arr (by first | rfl | (simp; done) | (simp; omega))), rfl, rfl, rfl, trivial⟩ (fun _ => rfl) ?_
      rintro i hi
      refine OK.seq ?_
      refine OK.reg ?_
      refine RK.c (S.lss .none rfl (.tmp rfl rfl) (.tmp rfl rfl)) ?_
      refine RK.nil ?_
      refine Ab.D.code ?_
      refine OK.seq ?_
      refine OK.condD rfl rfl (fun c40 => ?_) (fun c40 => ?_)
      ·
        have hO := learn_others hL (show i < l.length by omega) hl2
        have hol := others_len (show i < l.length by omega)
        have hot : trimErr trim (others l i).length = 0 := by rw [hol, show ((l.length - 1 : Nat) : Int) = (l.length : Int) - 1 by omega]; exact htz
        have hB := learn_both hO hot hL (show i < l.length by omega)
        have hBr := hB.rows
        have hcat : [l.take i, l.drop (i + 1)].flatten = others l i := by simp [others]
        have hcl : [l.take i, l.drop (i + 1)].flatten.length = l.length - 1 := by rw [hcat, hol]
        have hid : isAl p l trim i = decide ((devT (envT p (others l i) trim) l[i]).length ≠ 0) := by rw [isAl, getD_at (by omega)]
        have hul := alUp_len p l trim i
        have kC : Ct Tryz.prog 43 [.sl ([l.take i, l.drop (i + 1)].map (fun m => [X.sl (m.map Record.cs)]))] (.sl ((others l i).map Record.cs)) := ct_res (concat_rec (ls := [l.take i, l.drop (i + 1)]) (by omega) (by omega) (by simp)) (by rw [hcat])
        refine OK.skip ?_
        refine Ab.D.code ?_
        refine OK.seq ?_
        refine OK.block ?_
        refine OK.seq ?_
        refine OK.reg ?_
        refine RK.c (S.move .none rfl (.tmp rfl rfl)) ?_
        refine RK.c (S.indexM si26 .none rfl (.tmp rfl rfl) (.tmp rfl rfl) rfl (by omega) rfl) ?_
        refine RK.c (S.loadN ti39 .none rfl (.tmp rfl rfl) rfl rfl) ?_
        refine RK.c (S.alloc (k := 12) ze39 rfl .none rfl) ?_
        refine RK.c (S.assign .none rfl (.tmp rfl rfl)) ?_
        refine RK.c (S.store ti39 .none (.tmp rfl rfl) (.tmp rfl rfl) rfl rfl rfl rfl rfl rfl) ?_
        refine RK.nil ?_
        refine Ab.D.code ?_
        refine OK.seq ?_
        refine OK.regionDraw follows (.c (S.move .none rfl (.tmp rfl rfl))
          (.c (S.move .none rfl (.tmp rfl rfl))
          (.c (S.slice (hi := i) (l' := l.take i) si26 (fun _ => rfl) .none rfl (.tmp rfl rfl) (.inl ⟨rfl, rfl, rfl⟩) (.inr ⟨_, _, rfl, (.tmp rfl rfl), rfl⟩) (Nat.zero_le _) (by omega) rfl)
          (.c (S.move .none rfl (.tmp rfl rfl))
          (.c (S.move .none rfl (.tmp rfl rfl))
          (.c (S.add .none rfl (.tmp rfl rfl) (.cint rfl) (IntWalk.i64_in _ (by omega)) (IntWalk.i64_in _ (by omega)))
          (.c (S.slice (lo := (i + 1)) (l' := l.drop (i + 1)) si26 (fun _ => rfl) .none rfl (.tmp rfl rfl) (.inr ⟨_, _, rfl, (.tmp rfl rfl), (by omega)⟩) (.inl ⟨rfl, rfl, rfl⟩) (by omega) (Nat.le_refl _) (by rw [List.take_length]))
          (.c (S.mkData (rows := [[_], [_]]) ai131 .none rfl (.cons (.tmp rfl rfl) (.cons (.tmp rfl rfl) .nil)) rfl rfl rfl rfl rfl rfl rfl)
          (.c (S.call (kC) Tryz.call43 .none rfl (.cons (.tmp rfl rfl) .nil) rfl)
          (.c (S.assign .none rfl (.tmp rfl rfl))
          .nil)))))))))) (by kernel_rfl) ?_
        refine Ab.D.code ?_
        refine OK.seq ?_
        refine OK.regionDraw follows (.c (S.bloadN ti89 .none rfl (.tmp rfl rfl) rfl rfl rfl rfl)
          (.c (S.move .none rfl (.tmp rfl rfl))
          (.c (S.move .none rfl (.tmp rfl rfl))
          (.c (S.call (mon_envelope (l := others l i) q1 ⟨by omega, by omega⟩ hO.whole (trimErr_0 (by omega) hot)) Tryz.call42 .none rfl (.cons (.tmp rfl rfl) (.cons (.tmp rfl rfl) (.cons (.tmp rfl rfl) .nil))) rfl)
          (.c (S.bloadN ti39 .none rfl (.tmp rfl rfl) rfl rfl rfl rfl)
          (.c (S.call (mon_deviates hB.fit (by omega) (fun t h => by have := hB.vals t h; omega)) Tryz.call44 .none rfl (.cons (.tmp rfl rfl) (.cons (.tmp rfl rfl) .nil)) rfl)
          .nil)))))) (by kernel_rfl) ?_
        refine Ab.D.code ?_
        refine OK.cond rfl rfl (fun c58 => ?_) (fun c58 => ?_)
        ·
          rw [← hid] at c58
          refine OK.reg ?_
          refine RK.c (S.move .none rfl (.tmp rfl rfl)) ?_
          refine RK.c (S.move .none rfl (.tmp rfl rfl)) ?_
          refine RK.c (S.mkSlice (k := 61) (rows := [[_]]) ai33 .none rfl (.cons (.tmp rfl rfl) .nil) rfl rfl rfl rfl rfl rfl rfl) ?_
          refine RK.c (S.append ai33 .none rfl (.tmp rfl rfl) rfl (by simp) (.tmp rfl rfl) rfl (by first | rfl | (simp; done) | (simp; omega)) (by omega) (by simp only [maxLen]; omega)) ?_
          refine RK.c (S.assign .none rfl (.tmp rfl rfl)) ?_
          refine RK.nil ?_
          refine Ab.D.blk ?_
          refine Ab.D.code ?_
          refine OK.reg ?_
          refine RK.c (S.add .none rfl (.tmp rfl rfl) (.cint rfl) (IntWalk.i64_in _ (by omega)) (IntWalk.i64_in _ (by omega))) ?_
          refine RK.c (S.move .none rfl (.tmp rfl rfl)) ?_
          refine RK.nil ?_
          refine Ab.D.lp ⟨i + 1, (by omega), (by omega), rfl, rfl, rfl, rfl, (lk_own1 (by first | (rw [← alUp_T c58, List.length_append]; rfl) | rw [← alUp_F c58])), (lk_arr (by first | (rw [← alUp_T c58, List.map_append]; rfl) | rw [← alUp_F c58])), rfl, rfl, rfl, trivial⟩
        ·
          rw [← hid] at c58
          refine OK.skip ?_
          refine Ab.D.blk ?_
          refine Ab.D.code ?_
          refine OK.reg ?_
          refine RK.c (S.add .none rfl (.tmp rfl rfl) (.cint rfl) (IntWalk.i64_in _ (by omega)) (IntWalk.i64_in _ (by omega))) ?_
          refine RK.c (S.move .none rfl (.tmp rfl rfl)) ?_
          refine RK.nil ?_
          refine Ab.D.lp ⟨i + 1, (by omega), (by omega), rfl, rfl, rfl, rfl, (lk_own1 (by first | (rw [← alUp_T c58, List.length_append]; rfl) | rw [← alUp_F c58])), (lk_arr (by first | (rw [← alUp_T c58, List.map_append]; rfl) | rw [← alUp_F c58])), rfl, rfl, rfl, trivial⟩
      ·
        refine OK.exit rfl ?_
        refine Ab.D.code ?_
        refine OK.seq ?_
        refine OK.reg ?_
        refine RK.c (S.move .none rfl (.tmp rfl rfl)) ?_
        refine RK.c (S.assign .none rfl (.tmp rfl rfl)) ?_
        refine RK.c (S.assign .none rfl (.cint rfl)) ?_
        refine RK.nil ?_
        refine Ab.D.code ?_
        refine OK.ret (Ret.r2 (.tmp rfl rfl (.c (.own rfl rfl (by first | rfl | (simp; done) | (simp; omega))) rfl) rfl) (.tmp rfl rfl (.c (.same rfl) rfl) rfl) ?_)
        rw [if_pos he, he, show i = l.length by omega]
        rfl
  ·
    have hq : alErr p l trim = firstE [openRecs p l, unlessE (decide ((l.length : Int) ≠ 1)) 12] := by omega
    refine OK.skip ?_
    refine Ab.D.code ?_
    refine OK.seq ?_
    refine OK.seq ?_
    refine OK.reg ?_
    refine RK.c (S.move .none rfl (.tmp rfl rfl)) ?_
    refine RK.c (S.neq .none rfl (.tmp rfl rfl) (.cint rfl)) ?_
    refine RK.nil ?_
    refine Ab.D.code ?_
    refine OK.condD rfl rfl (fun c35 => ?_) (fun c35 => ?_)
    ·
      refine OK.seq ?_
      refine OK.reg ?_
      refine RK.c (S.move .none rfl (.tmp rfl rfl)) ?_
      refine RK.c (S.assign .none rfl .cnil) ?_
      refine RK.c (S.assign .none rfl (.tmp rfl rfl)) ?_
      refine RK.nil ?_
      refine Ab.D.code ?_
      refine OK.ret (Ret.r2 (.tmp rfl rfl (.c (.same rfl) rfl) rfl) (.tmp rfl rfl (.c (.same rfl) rfl) rfl) ?_)
      rw [hq, if_neg (by omega)]
      rfl
    ·
      have he : alErr p l trim = 0 := by omega
      have hop : openRecs p l = 0 := by omega
      obtain ⟨q1, q2, q3⟩ := openRecs_0 hop
      have hrz : recsErr p l = 0 := by
        unfold openRecs at hop
        rwa [if_neg (by omega)] at hop
      have hL := learn_of q1 hrz
      have hl2 : 2 ≤ l.length := by omega
      have htz : trimErr trim ((l.length : Int) - 1) = 0 := by omega
      have htr := trimErr_0 (by omega) htz
      refine OK.skip ?_
      refine Ab.D.code ?_
      refine OK.seq ?_
      refine OK.reg ?_
      refine RK.c (S.nilOwn (k := 10) (sz := 1) .none rfl) ?_
      refine RK.nil ?_
      refine Ab.D.code ?_
      refine OK.seq ?_
      refine OK.seq ?_
      refine OK.reg ?_
      refine RK.c (S.move .none rfl (.tmp rfl rfl)) ?_
      refine RK.c (S.lenM si26 .none rfl (.tmp rfl rfl)) ?_
      refine RK.c (S.move .none rfl (.cint rfl)) ?_
      refine RK.nil ?_
      refine Ab.D.code ?_
      refine OK.block ?_
      refine OK.loop (G := Nat) [8, 10] (fun i => [(1, .sl (l.map Record.cs)), (2, .int .i64 trim), (8, .ptr 8 0), (1008, .box p.cs), (10, .own 10 (alUp p l trim i).length), (2010, .arr 1 ((alUp p l trim i).map fun n => [.int .i64 n])), (37, .sl (l.map Record.cs)), (38, .int .i64 l.length), (39, .int .i64 i)]) (fun i => i ≤ l.length) (fun i => l.length - i) 0 (Nat.zero_le _) ⟨rfl, rfl, rfl, rfl, (lk_own (by first | rfl | (simp; done) | (simp; omega))), (lk_arr (by first | rfl | (simp; done) | (simp; omega))), rfl, rfl, rfl, trivial⟩ (fun _ => rfl) ?_
      rintro i hi
      refine OK.seq ?_
      refine OK.reg ?_
      refine RK.c (S.lss .none rfl (.tmp rfl rfl) (.tmp rfl rfl)) ?_
      refine RK.nil ?_
      refine Ab.D.code ?_
      refine OK.seq ?_
      refine OK.condD rfl rfl (fun c40 => ?_) (fun c40 => ?_)
      ·
        have hO := learn_others hL (show i < l.length by omega) hl2
        have hol := others_len (show i < l.length by omega)
        have hot : trimErr trim (others l i).length = 0 := by rw [hol, show ((l.length - 1 : Nat) : Int) = (l.length : Int) - 1 by omega]; exact htz
        have hB := learn_both hO hot hL (show i < l.length by omega)
        have hBr := hB.rows
        have hcat : [l.take i, l.drop (i + 1)].flatten = others l i := by simp [others]
        have hcl : [l.take i, l.drop (i + 1)].flatten.length = l.length - 1 := by rw [hcat, hol]
        have hid : isAl p l trim i = decide ((devT (envT p (others l i) trim) l[i]).length ≠ 0) := by rw [isAl, getD_at (by omega)]
        have hul := alUp_len p l trim i
        have kC : Ct Tryz.prog 43 [.sl ([l.take i, l.drop (i + 1)].map (fun m => [X.sl (m.map Record.cs)]))] (.sl ((others l i).map Record.cs)) := ct_res (concat_rec (ls := [l.take i, l.drop (i + 1)]) (by omega) (by omega) (by simp)) (by rw [hcat])
        refine OK.skip ?_
        refine Ab.D.code ?_
        refine OK.seq ?_
        refine OK.block ?_
        refine OK.seq ?_
        refine OK.reg ?_
        refine RK.c (S.move .none rfl (.tmp rfl rfl)) ?_
        refine RK.c (S.indexM si26 .none rfl (.tmp rfl rfl) (.tmp rfl rfl) rfl (by omega) rfl) ?_
        refine RK.c (S.loadN ti39 .none rfl (.tmp rfl rfl) rfl rfl) ?_
        refine RK.c (S.alloc (k := 12) ze39 rfl .none rfl) ?_
        refine RK.c (S.assign .none rfl (.tmp rfl rfl)) ?_
        refine RK.c (S.store ti39 .none (.tmp rfl rfl) (.tmp rfl rfl) rfl rfl rfl rfl rfl rfl) ?_
        refine RK.nil ?_
        refine Ab.D.code ?_
        refine OK.seq ?_
        refine OK.regionDraw follows (.c (S.move .none rfl (.tmp rfl rfl))
          (.c (S.move .none rfl (.tmp rfl rfl))
          (.c (S.slice (hi := i) (l' := l.take i) si26 (fun _ => rfl) .none rfl (.tmp rfl rfl) (.inl ⟨rfl, rfl, rfl⟩) (.inr ⟨_, _, rfl, (.tmp rfl rfl), rfl⟩) (Nat.zero_le _) (by omega) rfl)
          (.c (S.move .none rfl (.tmp rfl rfl))
          (.c (S.move .none rfl (.tmp rfl rfl))
          (.c (S.add .none rfl (.tmp rfl rfl) (.cint rfl) (IntWalk.i64_in _ (by omega)) (IntWalk.i64_in _ (by omega)))
          (.c (S.slice (lo := (i + 1)) (l' := l.drop (i + 1)) si26 (fun _ => rfl) .none rfl (.tmp rfl rfl) (.inr ⟨_, _, rfl, (.tmp rfl rfl), (by omega)⟩) (.inl ⟨rfl, rfl, rfl⟩) (by omega) (Nat.le_refl _) (by rw [List.take_length]))
          (.c (S.mkData (rows := [[_], [_]]) ai131 .none rfl (.cons (.tmp rfl rfl) (.cons (.tmp rfl rfl) .nil)) rfl rfl rfl rfl rfl rfl rfl)
          (.c (S.call (kC) Tryz.call43 .none rfl (.cons (.tmp rfl rfl) .nil) rfl)
          (.c (S.assign .none rfl (.tmp rfl rfl))
          .nil)))))))))) (by kernel_rfl) ?_
        refine Ab.D.code ?_
        refine OK.seq ?_
        refine OK.regionDraw follows (.c (S.bloadN ti89 .none rfl (.tmp rfl rfl) rfl rfl rfl rfl)
          (.c (S.move .none rfl (.tmp rfl rfl))
          (.c (S.move .none rfl (.tmp rfl rfl))
          (.c (S.call (mon_envelope (l := others l i) q1 ⟨by omega, by omega⟩ hO.whole (trimErr_0 (by omega) hot)) Tryz.call42 .none rfl (.cons (.tmp rfl rfl) (.cons (.tmp rfl rfl) (.cons (.tmp rfl rfl) .nil))) rfl)
          (.c (S.bloadN ti39 .none rfl (.tmp rfl rfl) rfl rfl rfl rfl)
          (.c (S.call (mon_deviates hB.fit (by omega) (fun t h => by have := hB.vals t h; omega)) Tryz.call44 .none rfl (.cons (.tmp rfl rfl) (.cons (.tmp rfl rfl) .nil)) rfl)
          .nil)))))) (by kernel_rfl) ?_
        refine Ab.D.code ?_
        refine OK.cond rfl rfl (fun c58 => ?_) (fun c58 => ?_)
        ·
          rw [← hid] at c58
          refine OK.reg ?_
          refine RK.c (S.move .none rfl (.tmp rfl rfl)) ?_
          refine RK.c (S.move .none rfl (.tmp rfl rfl)) ?_
          refine RK.c (S.mkSlice (k := 61) (rows := [[_]]) ai33 .none rfl (.cons (.tmp rfl rfl) .nil) rfl rfl rfl rfl rfl rfl rfl) ?_
          refine RK.c (S.append ai33 .none rfl (.tmp rfl rfl) rfl (by simp) (.tmp rfl rfl) rfl (by first | rfl | (simp; done) | (simp; omega)) (by omega) (by simp only [maxLen]; omega)) ?_
          refine RK.c (S.assign .none rfl (.tmp rfl rfl)) ?_
          refine RK.nil ?_
          refine Ab.D.blk ?_
          refine Ab.D.code ?_
          refine OK.reg ?_
          refine RK.c (S.add .none rfl (.tmp rfl rfl) (.cint rfl) (IntWalk.i64_in _ (by omega)) (IntWalk.i64_in _ (by omega))) ?_
          refine RK.c (S.move .none rfl (.tmp rfl rfl)) ?_
          refine RK.nil ?_
          refine Ab.D.lp ⟨i + 1, (by omega), (by omega), rfl, rfl, rfl, rfl, (lk_own1 (by first | (rw [← alUp_T c58, List.length_append]; rfl) | rw [← alUp_F c58])), (lk_arr (by first | (rw [← alUp_T c58, List.map_append]; rfl) | rw [← alUp_F c58])), rfl, rfl, rfl, trivial⟩
        ·
          rw [← hid] at c58
          refine OK.skip ?_
          refine Ab.D.blk ?_
          refine Ab.D.code ?_
          refine OK.reg ?_
          refine RK.c (S.add .none rfl (.tmp rfl rfl) (.cint rfl) (IntWalk.i64_in _ (by omega)) (IntWalk.i64_in _ (by omega))) ?_
          refine RK.c (S.move .none rfl (.tmp rfl rfl)) ?_
          refine RK.nil ?_
          refine Ab.D.lp ⟨i + 1, (by omega), (by omega), rfl, rfl, rfl, rfl, (lk_own1 (by first | (rw [← alUp_T c58, List.length_append]; rfl) | rw [← alUp_F c58])), (lk_arr (by first | (rw [← alUp_T c58, List.map_append]; rfl) | rw [← alUp_F c58])), rfl, rfl, rfl, trivial⟩
      ·
        refine OK.exit rfl ?_
        refine Ab.D.code ?_
        refine OK.seq ?_
        refine OK.reg ?_
        refine RK.c (S.move .none rfl (.tmp rfl rfl)) ?_
        refine RK.c (S.assign .none rfl (.tmp rfl rfl)) ?_
        refine RK.c (S.assign .none rfl (.cint rfl)) ?_
        refine RK.nil ?_
        refine Ab.D.code ?_
        refine OK.ret (Ret.r2 (.tmp rfl rfl (.c (.own rfl rfl (by first | rfl | (simp; done) | (simp; omega))) rfl) rfl) (.tmp rfl rfl (.c (.same rfl) rfl) rfl) ?_)
        rw [if_pos he, he, show i = l.length by omega]
        rfl

end Go.Proofs.YtmokilkombplkaaGreat
