/-
  Alarms: the bound, the alarms among records, by both texts.
-/
import Derived.Test.YtfjldfkgjejpmaaGreatSh
import Derived.Test.YtfjldfkgjejpmaaGreatFu
import Derived.Test.YtfjldfkgjejpmaaGreatGr
import Derived.Test.YtfjldfkgjejpmaaGreatWw
namespace Go.Proofs.YtfjldfkgjejpmaaGreat
open Go.Ab

theorem lk_own1 {k n n' : Nat} (h : n = n') : some (X.own k n) = some (X.own k n') := by rw [h]
/-- All records but one. -/
def others (l : List Record) (i : Nat) : List Record := l.take i ++ l.drop (i + 1)
theorem others_len {l : List Record} {i : Nat} (h : i < l.length) : (others l i).length = l.length - 1 := by simp [others]; omega
theorem others_mem {l : List Record} {i : Nat} {r : Record} (h : r ∈ others l i) : r ∈ l := by
  rcases List.mem_append.1 h with h | h
  · exact List.mem_of_mem_take h
  · exact List.mem_of_mem_drop h
theorem learn_others {p : Plan} {l : List Record} (h : LearnT p l) {i : Nat} (hi : i < l.length) (h2 : 2 ≤ l.length) : LearnT p (others l i) where
  plan := h.plan
  len := by rw [others_len hi]; have := h.len; omega
  chk := fun k hk => by
    obtain ⟨j, hj, e⟩ := List.getElem_of_mem (others_mem (List.getElem_mem hk))
    rw [← e]; exact h.chk j hj
  whole := ⟨fun k hk => by
    obtain ⟨j, hj, e⟩ := List.getElem_of_mem (others_mem (List.getElem_mem hk))
    have := h.whole.rows j hj
    rw [e] at this
    exact this, fun k hk t ht => by
    obtain ⟨j, hj, e⟩ := List.getElem_of_mem (others_mem (List.getElem_mem hk))
    have := h.whole.vals j hj
    rw [e] at this
    exact this t ht⟩
theorem learn_both {p : Plan} {l m : List Record} {trim : Int} (h : LearnT p m) (ht : trimErr trim m.length = 0) (hl : LearnT p l) {i : Nat} (hi : i < l.length) : BothT p (envT p m trim) l[i] := by
  refine both_of ?_
  unfold bothErr
  rw [h.plan, learn_valid h ht]
  simp [(hl.chk i hi).1]
def isAl (p : Plan) (l : List Record) (trim : Int) (i : Nat) : Bool := decide ((devT (envT p (others l i) trim) (l.getD i ⟨[]⟩)).length ≠ 0)
def alUp (p : Plan) (l : List Record) (trim : Int) (n : Nat) : List Int := ((List.range n).filter (isAl p l trim)).map fun (i : Nat) => (i : Int)
theorem alUp_T {p : Plan} {l : List Record} {trim : Int} {n : Nat} (h : isAl p l trim n = true) : alUp p l trim n ++ [(n : Int)] = alUp p l trim (n + 1) := by
  simp [alUp, List.range_succ, List.filter_append, h]
theorem alUp_F {p : Plan} {l : List Record} {trim : Int} {n : Nat} (h : isAl p l trim n = false) : alUp p l trim n = alUp p l trim (n + 1) := by
  simp [alUp, List.range_succ, List.filter_append, h]
theorem alUp_len (p : Plan) (l : List Record) (trim : Int) (n : Nat) : (alUp p l trim n).length ≤ n := by
  have := List.length_filter_le (isAl p l trim) (List.range n)
  simpa [alUp] using this
def alErr (p : Plan) (l : List Record) (trim : Int) : Int := if openRecs p l ≠ 0 then openRecs p l else if l.length = 1 then 12 else trimErr trim ((l.length : Int) - 1)
theorem flat_take {α : Type} (ls : List (List α)) (i : Nat) : (ls.take i).flatten.length ≤ ls.flatten.length := by
  have h : ls.flatten = (ls.take i).flatten ++ (ls.drop i).flatten := by rw [← List.flatten_append, List.take_append_drop]
  rw [h, List.length_append]
  omega
theorem flat_snoc {α : Type} {ls : List (List α)} {i : Nat} (h : i < ls.length) : (ls.take (i + 1)).flatten = (ls.take i).flatten ++ ls[i] := by
  rw [← take_snoc h, List.flatten_append]
  simp
def oth (l : List Record) (i k : Nat) : List Record := (l.take k).take i ++ (l.take k).drop (i + 1)
theorem oth_ne {l : List Record} {i k : Nat} (h : k < l.length) (hn : (k : Int) ≠ i) : oth l i k ++ [l[k]] = oth l i (k + 1) := by
  unfold oth
  rw [← take_snoc h]
  have hl : (l.take k).length = k := by simp; omega
  rcases Nat.lt_or_ge k i with h1 | h1
  · rw [List.take_of_length_le (l := l.take k) (by omega), List.drop_of_length_le (l := l.take k) (by omega), List.take_of_length_le (l := l.take k ++ [l[k]]) (by simp; omega), List.drop_of_length_le (l := l.take k ++ [l[k]]) (by simp; omega)]
    simp
  · have h2 : i < k := by omega
    rw [List.take_append_of_le_length (by omega), List.drop_append_of_le_length (by omega), List.append_assoc]
theorem oth_eq {l : List Record} {i k : Nat} (h : k < l.length) (hn : ¬ (k : Int) ≠ i) : oth l i k = oth l i (k + 1) := by
  have : k = i := by omega
  subst this
  unfold oth
  rw [← take_snoc h]
  have hl : (l.take k).length = k := by simp; omega
  rw [List.take_append_of_le_length (by omega), List.drop_of_length_le (l := l.take k) (by omega), List.drop_of_length_le (l := l.take k ++ [l[k]]) (by simp; omega)]
theorem oth_all (l : List Record) (i : Nat) : oth l i l.length = others l i := by rw [oth, List.take_length, others]
theorem oth_len (l : List Record) (i k : Nat) : (oth l i k).length ≤ 2 * l.length := by
  simp only [oth, List.length_append, List.length_take, List.length_drop]
  omega

theorem concat_rec {ls : List (List Record)} (h0 : 0 < ls.flatten.length) (hlen : ls.flatten.length ≤ 100000) (hl : ls.length ≤ 1000) : Ct Tryz.prog 83 [.sl (ls.map (fun m => [X.sl (m.map Record.cs)]))] (.sl (ls.flatten.map Record.cs)) := by
  refine Ct.intro (rs := [.tmp 2]) Tryz.func83 rfl Tryz.ntmps83 Tryz.results83 rfl rfl rfl fun w h => ?_
  refine OK.seq ?_
  refine OK.reg ?_
  refine RK.c (S.assign .none rfl .cnil) ?_
  refine RK.nil ?_
  refine Ab.D.code ?_
  refine OK.seq ?_
  refine OK.reg ?_
  refine RK.c (S.assign .none rfl (.cint rfl)) ?_
  refine RK.nil ?_
  refine Ab.D.code ?_
  refine OK.seq ?_
  refine OK.seq ?_
  refine OK.reg ?_
  refine RK.c (S.move .none rfl (.tmp rfl rfl)) ?_
  refine RK.c (S.lenM si167 .none rfl (.tmp rfl rfl)) ?_
  refine RK.c (S.move .none rfl (.cint rfl)) ?_
  refine RK.nil ?_
  refine Ab.D.code ?_
  refine OK.block ?_
  refine OK.loop (G := Nat) [] (fun i => [(0, .sl (ls.map (fun m => [X.sl (m.map Record.cs)]))), (3, .int .i64 (ls.take i).flatten.length), (9, .sl (ls.map (fun m => [X.sl (m.map Record.cs)]))), (10, .int .i64 ls.length), (11, .int .i64 i)]) (fun i => i ≤ ls.length) (fun i => ls.length - i) 0 (Nat.zero_le _) ⟨rfl, rfl, rfl, rfl, rfl, trivial⟩ (fun _ => rfl) ?_
  rintro i hi
  refine OK.seq ?_
  refine OK.reg ?_
  refine RK.c (S.lss .none rfl (.tmp rfl rfl) (.tmp rfl rfl)) ?_
  refine RK.nil ?_
  refine Ab.D.code ?_
  refine OK.seq ?_
  refine OK.condD rfl rfl (fun c12 => ?_) (fun c12 => ?_)
  ·
    have hfl := flat_take ls (i + 1)
    rw [flat_snoc (by omega), List.length_append] at hfl
    refine OK.skip ?_
    refine Ab.D.code ?_
    refine OK.seq ?_
    refine OK.block ?_
    refine OK.seq ?_
    refine OK.reg ?_
    refine RK.c (S.indexM si167 .none rfl (.tmp rfl rfl) (.tmp rfl rfl) rfl (by omega) rfl) ?_
    refine RK.c (S.load1 ti25 .none rfl (.tmp rfl rfl) rfl) ?_
    refine RK.c (S.assign .none rfl (.tmp rfl rfl)) ?_
    refine RK.nil ?_
    refine Ab.D.code ?_
    refine OK.seq ?_
    refine OK.reg ?_
    refine RK.c (S.move .none rfl (.tmp rfl rfl)) ?_
    refine RK.c (S.move .none rfl (.tmp rfl rfl)) ?_
    refine RK.c (S.lenM si25 .none rfl (.tmp rfl rfl)) ?_
    refine RK.c (S.add (q := ((ls.take i).flatten.length + ls[i].length : Int)) .none rfl (.tmp rfl rfl) (.tmp rfl rfl) (IntWalk.i64_in _ (by omega)) (IntWalk.i64_in _ (by omega))) ?_
    refine RK.c (S.assign .none rfl (.tmp rfl rfl)) ?_
    refine RK.nil ?_
    refine Ab.D.code ?_
    refine OK.seq ?_
    refine OK.reg ?_
    refine RK.c (S.move .none rfl (.tmp rfl rfl)) ?_
    refine RK.c (S.lss .none rfl (.tmp rfl rfl) (.cint rfl)) ?_
    refine RK.nil ?_
    refine Ab.D.code ?_
    refine OK.condD rfl rfl (fun c20 => ?_) (fun c20 => ?_)
    ·
      exfalso
      omega
    ·
      refine OK.skip ?_
      refine Ab.D.blk ?_
      refine Ab.D.code ?_
      refine OK.reg ?_
      refine RK.c (S.add .none rfl (.tmp rfl rfl) (.cint rfl) (IntWalk.i64_in _ (by omega)) (IntWalk.i64_in _ (by omega))) ?_
      refine RK.c (S.move .none rfl (.tmp rfl rfl)) ?_
      refine RK.nil ?_
      refine Ab.D.lp ⟨i + 1, (by omega), (by omega), rfl, (lk_int1 (by rw [flat_snoc (by omega), List.length_append]; omega)), rfl, rfl, rfl, trivial⟩
  ·
    have hfi : (ls.take i).flatten = ls.flatten := by rw [show i = ls.length by omega, List.take_length]
    refine OK.exit rfl ?_
    refine Ab.D.code ?_
    refine OK.seq ?_
    refine OK.reg ?_
    refine RK.c (S.move .none rfl (.tmp rfl rfl)) ?_
    refine RK.c (S.growNil (k := 24) (n := (ls.take i).flatten.length) (growsNil_of Tryz.grow_115 ai25 rfl rfl) Tryz.call115 .none rfl (.tmp rfl rfl) rfl (by rw [hfi]; exact h0) (by rw [hfi]; omega) (by rw [hfi]; omega)) ?_
    refine RK.c (S.assign .none rfl (.tmp rfl rfl)) ?_
    refine RK.nil ?_
    refine Ab.D.code ?_
    refine OK.seq ?_
    refine OK.seq ?_
    refine OK.reg ?_
    refine RK.c (S.move .none rfl (.tmp rfl rfl)) ?_
    refine RK.c (S.lenM si167 .none rfl (.tmp rfl rfl)) ?_
    refine RK.c (S.move .none rfl (.cint rfl)) ?_
    refine RK.nil ?_
    refine Ab.D.code ?_
    refine OK.block ?_
    refine OK.loop (G := Nat) [24] (fun j => [(6, .own 24 (ls.take j).flatten.length), (2024, .arr 1 ((ls.take j).flatten.map Record.cs)), (25, .sl (ls.map (fun m => [X.sl (m.map Record.cs)]))), (26, .int .i64 ls.length), (27, .int .i64 j)]) (fun j => j ≤ ls.length) (fun j => ls.length - j) 0 (Nat.zero_le _) ⟨(lk_own (by first | rfl | (simp; done) | (simp; omega))), (lk_arr (by first | rfl | (simp; done) | (simp; omega))), rfl, rfl, rfl, trivial⟩ (fun _ => rfl) ?_
    rintro j hj
    refine OK.seq ?_
    refine OK.reg ?_
    refine RK.c (S.lss .none rfl (.tmp rfl rfl) (.tmp rfl rfl)) ?_
    refine RK.nil ?_
    refine Ab.D.code ?_
    refine OK.seq ?_
    refine OK.condD rfl rfl (fun c28 => ?_) (fun c28 => ?_)
    ·
      have hfl := flat_take ls (j + 1)
      rw [flat_snoc (by omega), List.length_append] at hfl
      refine OK.skip ?_
      refine Ab.D.code ?_
      refine OK.seq ?_
      refine OK.block ?_
      refine OK.seq ?_
      refine OK.reg ?_
      refine RK.c (S.indexM si167 .none rfl (.tmp rfl rfl) (.tmp rfl rfl) rfl (by omega) rfl) ?_
      refine RK.c (S.load1 ti25 .none rfl (.tmp rfl rfl) rfl) ?_
      refine RK.c (S.assign .none rfl (.tmp rfl rfl)) ?_
      refine RK.nil ?_
      refine Ab.D.code ?_
      refine OK.reg ?_
      refine RK.c (S.move .none rfl (.tmp rfl rfl)) ?_
      refine RK.c (S.move .none rfl (.tmp rfl rfl)) ?_
      refine RK.c (S.appendSl ai25 .none rfl (.tmp rfl rfl) rfl (by rw [List.length_map]) (.tmp rfl rfl) (by intro q hq; obtain ⟨b, _, rfl⟩ := List.mem_map.1 hq; rfl) (by rw [List.length_map]) (by omega) (by unfold maxLen; omega)) ?_
      refine RK.c (S.assign .none rfl (.tmp rfl rfl)) ?_
      refine RK.nil ?_
      refine Ab.D.blk ?_
      refine Ab.D.code ?_
      refine OK.reg ?_
      refine RK.c (S.add .none rfl (.tmp rfl rfl) (.cint rfl) (IntWalk.i64_in _ (by omega)) (IntWalk.i64_in _ (by omega))) ?_
      refine RK.c (S.move .none rfl (.tmp rfl rfl)) ?_
      refine RK.nil ?_
      refine Ab.D.lp ⟨j + 1, (by omega), (by omega), (lk_own1 (by rw [flat_snoc (by omega), List.length_append])), (lk_arr (by rw [flat_snoc (by omega), List.map_append])), rfl, rfl, rfl, trivial⟩
    ·
      refine OK.exit rfl ?_
      refine Ab.D.code ?_
      refine OK.seq ?_
      refine OK.freeze 6 rfl rfl rfl (by simp only [List.length_map]) ?_
      refine OK.reg ?_
      refine RK.c (S.move .none rfl (.tmp rfl rfl)) ?_
      refine RK.c (S.assign .none rfl (.tmp rfl rfl)) ?_
      refine RK.nil ?_
      refine Ab.D.code ?_
      refine OK.ret (Ret.r1 (.tmp rfl rfl (.c (.same rfl) rfl) rfl) ?_)
      rw [show j = ls.length by omega, List.take_length]

theorem mon_AlarmsAmong {p : Plan} {l : List Record} {trim : Int} : Ct Tryz.prog 35 [.agg p.cs, .sl (l.map Record.cs), .int .i64 trim] (.tup [ints (if alErr p l trim = 0 then alUp p l trim l.length else []), .int .i64 (alErr p l trim)]) := by
  refine Ct.intro (rs := [.tmp 6, .tmp 7]) Tryz.func35 rfl Tryz.ntmps35 Tryz.results35 rfl rfl rfl fun w h => ?_
  refine OK.slLen (rows := l.map Record.cs) (t := 1) rfl rfl fun hlen => ?_
  rw [List.length_map] at hlen
  unfold maxLen at hlen
  have hal : alErr p l trim = if openRecs p l ≠ 0 then openRecs p l else if l.length = 1 then 12 else trimErr trim ((l.length : Int) - 1) := rfl
  have hun : unlessE (decide ((l.length : Int) ≠ 1)) 12 = if l.length = 1 then 12 else 0 := by
    by_cases h : l.length = 1
    · rw [unlessE_not (by omega), if_pos h]
    · rw [unlessE_of (by omega), if_neg h]
  have hfe : firstE [openRecs p l, unlessE (decide ((l.length : Int) ≠ 1)) 12] = if openRecs p l ≠ 0 then openRecs p l else if l.length = 1 then 12 else 0 := by rw [firstE2, hun]
  refine OK.seq ?_
  refine OK.reg ?_
  refine RK.c (S.box (k := 3) rfl .none rfl (.tmp rfl rfl) rfl) ?_
  refine RK.c (S.assign .none rfl .cnil) ?_
  refine RK.c (S.assign .none rfl (.cint rfl)) ?_
  refine RK.nil ?_
  refine Ab.D.code ?_
  refine OK.seq ?_
  refine OK.reg ?_
  refine RK.c (S.bloadN ti24 .none rfl (.tmp rfl rfl) rfl rfl rfl rfl) ?_
  refine RK.c (S.move .none rfl (.tmp rfl rfl)) ?_
  refine RK.c (S.call (mon_openRecords) Tryz.call61 .none rfl (.cons (.tmp rfl rfl) (.cons (.tmp rfl rfl) .nil)) rfl) ?_
  refine RK.c (S.move .none rfl (.tmp rfl rfl)) ?_
  refine RK.c (S.extract .none rfl (.tmp rfl rfl) rfl rfl) ?_
  refine RK.c (S.extract .none rfl (.tmp rfl rfl) rfl rfl) ?_
  refine RK.c (S.alloc (k := 8) ze117 rfl .none rfl) ?_
  refine RK.c (S.store ti117 .none (.tmp rfl rfl) (.tmp rfl rfl) rfl rfl rfl rfl rfl rfl) ?_
  refine RK.c (S.assign .none rfl (.tmp rfl rfl)) ?_
  refine RK.nil ?_
  refine Ab.D.code ?_
  refine OK.seq ?_
  refine OK.seq ?_
  refine OK.reg ?_
  refine RK.c (S.move .none rfl (.tmp rfl rfl)) ?_
  refine RK.c (S.move .none rfl (.tmp rfl rfl)) ?_
  refine RK.c (S.lenM si25 .none rfl (.tmp rfl rfl)) ?_
  refine RK.c (S.neq .none rfl (.tmp rfl rfl) (.cint rfl)) ?_
  refine RK.c (S.call (monitor_unless) Tryz.call80 .none rfl (.cons (.tmp rfl rfl) (.cons (.cint rfl) .nil)) rfl) ?_
  refine RK.c (S.mkSlice (k := 25) (rows := [[_], [_]]) ai166 .none rfl (.cons (.tmp rfl rfl) (.cons (.tmp rfl rfl) .nil)) rfl rfl rfl rfl rfl rfl rfl) ?_
  refine RK.c (S.callL (monitor_first (l := [_, _])) Tryz.call79 .none rfl (.cons (.tmp rfl rfl) .nil) (.cons (.p (.own rfl rfl) rfl) .nil) rfl) ?_
  refine RK.c (S.assign .none rfl (.tmp rfl rfl)) ?_
  refine RK.nil ?_
  refine Ab.D.code ?_
  refine OK.seq ?_
  refine OK.reg ?_
  refine RK.c (S.move .none rfl (.tmp rfl rfl)) ?_
  refine RK.c (S.eql .none rfl (.tmp rfl rfl) (.cint rfl)) ?_
  refine RK.nil ?_
  refine Ab.D.code ?_
  refine OK.condD rfl rfl (fun c28 => ?_) (fun c28 => ?_)
  ·
    have hq : alErr p l trim = trimErr trim ((l.length : Int) - 1) := by omega
    have hopz : openRecs p l = 0 := by omega
    have hl20 := (openRecs_0 hopz).2.1
    refine OK.reg ?_
    refine RK.c (S.move .none rfl (.tmp rfl rfl)) ?_
    refine RK.c (S.move .none rfl (.tmp rfl rfl)) ?_
    refine RK.c (S.lenM si25 .none rfl (.tmp rfl rfl)) ?_
    refine RK.c (S.sub .none rfl (.tmp rfl rfl) (.cint rfl) (IntWalk.i64_in _ (by omega)) (IntWalk.i64_in _ (by omega))) ?_
    refine RK.c (S.call (mon_trimErr (by omega)) Tryz.call62 .none rfl (.cons (.tmp rfl rfl) (.cons (.tmp rfl rfl) .nil)) rfl) ?_
    refine RK.c (S.assign .none rfl (.tmp rfl rfl)) ?_
    refine RK.nil ?_
    refine Ab.D.code ?_
    refine OK.seq ?_
    refine OK.seq ?_
    refine OK.reg ?_
    refine RK.c (S.move .none rfl (.tmp rfl rfl)) ?_
    refine RK.c (S.neq .none rfl (.tmp rfl rfl) (.cint rfl)) ?_
    refine RK.nil ?_
    refine Ab.D.code ?_
    refine OK.condD rfl rfl (fun c35 => ?_) (fun c35 => ?_)
    ·
      refine OK.seq ?_
      refine OK.reg ?_
      refine RK.c (S.move .none rfl (.tmp rfl rfl)) ?_
      refine RK.c (S.assign .none rfl .cnil) ?_
      refine RK.c (S.assign .none rfl (.tmp rfl rfl)) ?_
      refine RK.nil ?_
      refine Ab.D.code ?_
      refine OK.ret (Ret.r2 (.tmp rfl rfl (.c (.same rfl) rfl) rfl) (.tmp rfl rfl (.c (.same rfl) rfl) rfl) ?_)
      rw [hq, if_neg (by omega)]
      rfl
    ·
      have he : alErr p l trim = 0 := by omega
      have hop : openRecs p l = 0 := by omega
      obtain ⟨q1, q2, q3⟩ := openRecs_0 hop
      have hrz : recsErr p l = 0 := by
        unfold openRecs at hop
        rwa [if_neg (by omega)] at hop
      have hL := learn_of q1 hrz
      have hl2 : 2 ≤ l.length := by omega
      have htz : trimErr trim ((l.length : Int) - 1) = 0 := by omega
      have htr := trimErr_0 (by omega) htz
      refine OK.skip ?_
      refine Ab.D.code ?_
      refine OK.seq ?_
      refine OK.reg ?_
      refine RK.c (S.nilOwn (k := 10) (sz := 1) .none rfl) ?_
      refine RK.nil ?_
      refine Ab.D.code ?_
      refine OK.seq ?_
      refine OK.seq ?_
      refine OK.reg ?_
      refine RK.c (S.move .none rfl (.tmp rfl rfl)) ?_
      refine RK.c (S.lenM si25 .none rfl (.tmp rfl rfl)) ?_
      refine RK.c (S.move .none rfl (.cint rfl)) ?_
      refine RK.nil ?_
      refine Ab.D.code ?_
      refine OK.block ?_
      refine OK.loop (G := Nat) [8, 10] (fun i => [(1, .sl (l.map Record.cs)), (2, .int .i64 trim), (8, .ptr 8 0), (1008, .box p.cs), (10, .own 10 (alUp p l trim i).length), (2010, .arr 1 ((alUp p l trim i).map fun n => [.int .i64 n])), (37, .sl (l.map Record.cs)), (38, .int .i64 l.length), (39, .int .i64 i)]) (fun i => i ≤ l.length) (fun i => l.length - i) 0 (Nat.zero_le _) ⟨rfl, rfl, rfl, rfl, (lk_own (by first | rfl | (simp; done) | (simp; omega))), (lk_arr (by first | rfl | (simp; done) | (simp; omega))), rfl, rfl, rfl, trivial⟩ (fun _ => rfl) ?_
      rintro i hi
      refine OK.seq ?_
      refine OK.reg ?_
      refine RK.c (S.lss .none rfl (.tmp rfl rfl) (.tmp rfl rfl)) ?_
      refine RK.nil ?_
      refine Ab.D.code ?_
      refine OK.seq ?_
      refine OK.condD rfl rfl (fun c40 => ?_) (fun c40 => ?_)
      ·
        have hO := learn_others hL (show i < l.length by omega) hl2
        have hol := others_len (show i < l.length by omega)
        have hot : trimErr trim (others l i).length = 0 := by rw [hol, show ((l.length - 1 : Nat) : Int) = (l.length : Int) - 1 by omega]; exact htz
        have hB := learn_both hO hot hL (show i < l.length by omega)
        have hBr := hB.rows
        have hcat : [l.take i, l.drop (i + 1)].flatten = others l i := by simp [others]
        have hcl : [l.take i, l.drop (i + 1)].flatten.length = l.length - 1 := by rw [hcat, hol]
        have hid : isAl p l trim i = decide ((devT (envT p (others l i) trim) l[i]).length ≠ 0) := by rw [isAl, getD_at (by omega)]
        have hul := alUp_len p l trim i
        have kC : Ct Tryz.prog 83 [.sl ([l.take i, l.drop (i + 1)].map (fun m => [X.sl (m.map Record.cs)]))] (.sl ((others l i).map Record.cs)) := ct_res (concat_rec (ls := [l.take i, l.drop (i + 1)]) (by omega) (by omega) (by simp)) (by rw [hcat])
        refine OK.skip ?_
        refine Ab.D.code ?_
        refine OK.seq ?_
        refine OK.block ?_
        refine OK.seq ?_
        refine OK.reg ?_
        refine RK.c (S.move .none rfl (.tmp rfl rfl)) ?_
        refine RK.c (S.indexM si25 .none rfl (.tmp rfl rfl) (.tmp rfl rfl) rfl (by omega) rfl) ?_
        refine RK.c (S.loadN ti51 .none rfl (.tmp rfl rfl) rfl rfl) ?_
        refine RK.c (S.alloc (k := 12) ze51 rfl .none rfl) ?_
        refine RK.c (S.assign .none rfl (.tmp rfl rfl)) ?_
        refine RK.c (S.store ti51 .none (.tmp rfl rfl) (.tmp rfl rfl) rfl rfl rfl rfl rfl rfl) ?_
        refine RK.nil ?_
        refine Ab.D.code ?_
        refine OK.seq ?_
        refine OK.regionDraw follows (.c (S.move .none rfl (.tmp rfl rfl))
          (.c (S.move .none rfl (.tmp rfl rfl))
          (.c (S.slice (hi := i) (l' := l.take i) si25 (fun _ => rfl) .none rfl (.tmp rfl rfl) (.inl ⟨rfl, rfl, rfl⟩) (.inr ⟨_, _, rfl, (.tmp rfl rfl), rfl⟩) (Nat.zero_le _) (by omega) rfl)
          (.c (S.move .none rfl (.tmp rfl rfl))
          (.c (S.move .none rfl (.tmp rfl rfl))
          (.c (S.add .none rfl (.tmp rfl rfl) (.cint rfl) (IntWalk.i64_in _ (by omega)) (IntWalk.i64_in _ (by omega)))
          (.c (S.slice (lo := (i + 1)) (l' := l.drop (i + 1)) si25 (fun _ => rfl) .none rfl (.tmp rfl rfl) (.inr ⟨_, _, rfl, (.tmp rfl rfl), (by omega)⟩) (.inl ⟨rfl, rfl, rfl⟩) (by omega) (Nat.le_refl _) (by rw [List.take_length]))
          (.c (S.mkData (rows := [[_], [_]]) ai167 .none rfl (.cons (.tmp rfl rfl) (.cons (.tmp rfl rfl) .nil)) rfl rfl rfl rfl rfl rfl rfl)
          (.c (S.call (kC) Tryz.call83 .none rfl (.cons (.tmp rfl rfl) .nil) rfl)
          (.c (S.assign .none rfl (.tmp rfl rfl))
          .nil)))))))))) (by kernel_rfl) ?_
        refine Ab.D.code ?_
        refine OK.seq ?_
        refine OK.regionDraw follows (.c (S.bloadN ti117 .none rfl (.tmp rfl rfl) rfl rfl rfl rfl)
          (.c (S.move .none rfl (.tmp rfl rfl))
          (.c (S.move .none rfl (.tmp rfl rfl))
          (.c (S.call (mon_envelope (l := others l i) q1 ⟨by omega, by omega⟩ hO.whole (trimErr_0 (by omega) hot)) Tryz.call63 .none rfl (.cons (.tmp rfl rfl) (.cons (.tmp rfl rfl) (.cons (.tmp rfl rfl) .nil))) rfl)
          (.c (S.bloadN ti51 .none rfl (.tmp rfl rfl) rfl rfl rfl rfl)
          (.c (S.call (mon_deviates hB.fit (by omega) (fun t h => by have := hB.vals t h; omega)) Tryz.call68 .none rfl (.cons (.tmp rfl rfl) (.cons (.tmp rfl rfl) .nil)) rfl)
          .nil)))))) (by kernel_rfl) ?_
        refine Ab.D.code ?_
        refine OK.cond rfl rfl (fun c58 => ?_) (fun c58 => ?_)
        ·
          rw [← hid] at c58
          refine OK.reg ?_
          refine RK.c (S.move .none rfl (.tmp rfl rfl)) ?_
          refine RK.c (S.move .none rfl (.tmp rfl rfl)) ?_
          refine RK.c (S.mkSlice (k := 61) (rows := [[_]]) ai57 .none rfl (.cons (.tmp rfl rfl) .nil) rfl rfl rfl rfl rfl rfl rfl) ?_
          refine RK.c (S.append ai57 .none rfl (.tmp rfl rfl) rfl (by simp) (.tmp rfl rfl) rfl (by first | rfl | (simp; done) | (simp; omega)) (by omega) (by simp only [maxLen]; omega)) ?_
          refine RK.c (S.assign .none rfl (.tmp rfl rfl)) ?_
          refine RK.nil ?_
          refine Ab.D.blk ?_
          refine Ab.D.code ?_
          refine OK.reg ?_
          refine RK.c (S.add .none rfl (.tmp rfl rfl) (.cint rfl) (IntWalk.i64_in _ (by omega)) (IntWalk.i64_in _ (by omega))) ?_
          refine RK.c (S.move .none rfl (.tmp rfl rfl)) ?_
          refine RK.nil ?_
          refine Ab.D.lp ⟨i + 1, (by omega), (by omega), rfl, rfl, rfl, rfl, (lk_own1 (by first | (rw [← alUp_T c58, List.length_append]; rfl) | rw [← alUp_F c58])), (lk_arr (by first | (rw [← alUp_T c58, List.map_append]; rfl) | rw [← alUp_F c58])), rfl, rfl, rfl, trivial⟩
        ·
          rw [← hid] at c58
          refine OK.skip ?_
          refine Ab.D.blk ?_
          refine Ab.D.code ?_
          refine OK.reg ?_
          refine RK.c (S.add .none rfl (.tmp rfl rfl) (.cint rfl) (IntWalk.i64_in _ (by omega)) (IntWalk.i64_in _ (by omega))) ?_
          refine RK.c (S.move .none rfl (.tmp rfl rfl)) ?_
          refine RK.nil ?_
          refine Ab.D.lp ⟨i + 1, (by omega), (by omega), rfl, rfl, rfl, rfl, (lk_own1 (by first | (rw [← alUp_T c58, List.length_append]; rfl) | rw [← alUp_F c58])), (lk_arr (by first | (rw [← alUp_T c58, List.map_append]; rfl) | rw [← alUp_F c58])), rfl, rfl, rfl, trivial⟩
      ·
        refine OK.exit rfl ?_
        refine Ab.D.code ?_
        refine OK.seq ?_
        refine OK.reg ?_
        refine RK.c (S.move .none rfl (.tmp rfl rfl)) ?_
        refine RK.c (S.assign .none rfl (.tmp rfl rfl)) ?_
        refine RK.c (S.assign .none rfl (.cint rfl)) ?_
        refine RK.nil ?_
        refine Ab.D.code ?_
        refine OK.ret (Ret.r2 (.tmp rfl rfl (.c (.own rfl rfl (by first | rfl | (simp; done) | (simp; omega))) rfl) rfl) (.tmp rfl rfl (.c (.same rfl) rfl) rfl) ?_)
        rw [if_pos he, he, show i = l.length by omega]
        rfl
  ·
    have hq : alErr p l trim = firstE [openRecs p l, unlessE (decide ((l.length : Int) ≠ 1)) 12] := by omega
    refine OK.skip ?_
    refine Ab.D.code ?_
    refine OK.seq ?_
    refine OK.seq ?_
    refine OK.reg ?_
    refine RK.c (S.move .none rfl (.tmp rfl rfl)) ?_
    refine RK.c (S.neq .none rfl (.tmp rfl rfl) (.cint rfl)) ?_
    refine RK.nil ?_
    refine Ab.D.code ?_
    refine OK.condD rfl rfl (fun c35 => ?_) (fun c35 => ?_)
    ·
      refine OK.seq ?_
      refine OK.reg ?_
      refine RK.c (S.move .none rfl (.tmp rfl rfl)) ?_
      refine RK.c (S.assign .none rfl .cnil) ?_
      refine RK.c (S.assign .none rfl (.tmp rfl rfl)) ?_
      refine RK.nil ?_
      refine Ab.D.code ?_
      refine OK.ret (Ret.r2 (.tmp rfl rfl (.c (.same rfl) rfl) rfl) (.tmp rfl rfl (.c (.same rfl) rfl) rfl) ?_)
      rw [hq, if_neg (by omega)]
      rfl
    ·
      have he : alErr p l trim = 0 := by omega
      have hop : openRecs p l = 0 := by omega
      obtain ⟨q1, q2, q3⟩ := openRecs_0 hop
      have hrz : recsErr p l = 0 := by
        unfold openRecs at hop
        rwa [if_neg (by omega)] at hop
      have hL := learn_of q1 hrz
      have hl2 : 2 ≤ l.length := by omega
      have htz : trimErr trim ((l.length : Int) - 1) = 0 := by omega
      have htr := trimErr_0 (by omega) htz
      refine OK.skip ?_
      refine Ab.D.code ?_
      refine OK.seq ?_
      refine OK.reg ?_
      refine RK.c (S.nilOwn (k := 10) (sz := 1) .none rfl) ?_
      refine RK.nil ?_
      refine Ab.D.code ?_
      refine OK.seq ?_
      refine OK.seq ?_
      refine OK.reg ?_
      refine RK.c (S.move .none rfl (.tmp rfl rfl)) ?_
      refine RK.c (S.lenM si25 .none rfl (.tmp rfl rfl)) ?_
      refine RK.c (S.move .none rfl (.cint rfl)) ?_
      refine RK.nil ?_
      refine Ab.D.code ?_
      refine OK.block ?_
      refine OK.loop (G := Nat) [8, 10] (fun i => [(1, .sl (l.map Record.cs)), (2, .int .i64 trim), (8, .ptr 8 0), (1008, .box p.cs), (10, .own 10 (alUp p l trim i).length), (2010, .arr 1 ((alUp p l trim i).map fun n => [.int .i64 n])), (37, .sl (l.map Record.cs)), (38, .int .i64 l.length), (39, .int .i64 i)]) (fun i => i ≤ l.length) (fun i => l.length - i) 0 (Nat.zero_le _) ⟨rfl, rfl, rfl, rfl, (lk_own (by first | rfl | (simp; done) | (simp; omega))), (lk_arr (by first | rfl | (simp; done) | (simp; omega))), rfl, rfl, rfl, trivial⟩ (fun _ => rfl) ?_
      rintro i hi
      refine OK.seq ?_
      refine OK.reg ?_
      refine RK.c (S.lss .none rfl (.tmp rfl rfl) (.tmp rfl rfl)) ?_
      refine RK.nil ?_
      refine Ab.D.code ?_
      refine OK.seq ?_
      refine OK.condD rfl rfl (fun c40 => ?_) (fun c40 => ?_)
      ·
        have hO := learn_others hL (show i < l.length by omega) hl2
        have hol := others_len (show i < l.length by omega)
        have hot : trimErr trim (others l i).length = 0 := by rw [hol, show ((l.length - 1 : Nat) : Int) = (l.length : Int) - 1 by omega]; exact htz
        have hB := learn_both hO hot hL (show i < l.length by omega)
        have hBr := hB.rows
        have hcat : [l.take i, l.drop (i + 1)].flatten = others l i := by simp [others]
        have hcl : [l.take i, l.drop (i + 1)].flatten.length = l.length - 1 := by rw [hcat, hol]
        have hid : isAl p l trim i = decide ((devT (envT p (others l i) trim) l[i]).length ≠ 0) := by rw [isAl, getD_at (by omega)]
        have hul := alUp_len p l trim i
        have kC : Ct Tryz.prog 83 [.sl ([l.take i, l.drop (i + 1)].map (fun m => [X.sl (m.map Record.cs)]))] (.sl ((others l i).map Record.cs)) := ct_res (concat_rec (ls := [l.take i, l.drop (i + 1)]) (by omega) (by omega) (by simp)) (by rw [hcat])
        refine OK.skip ?_
        refine Ab.D.code ?_
        refine OK.seq ?_
        refine OK.block ?_
        refine OK.seq ?_
        refine OK.reg ?_
        refine RK.c (S.move .none rfl (.tmp rfl rfl)) ?_
        refine RK.c (S.indexM si25 .none rfl (.tmp rfl rfl) (.tmp rfl rfl) rfl (by omega) rfl) ?_
        refine RK.c (S.loadN ti51 .none rfl (.tmp rfl rfl) rfl rfl) ?_
        refine RK.c (S.alloc (k := 12) ze51 rfl .none rfl) ?_
        refine RK.c (S.assign .none rfl (.tmp rfl rfl)) ?_
        refine RK.c (S.store ti51 .none (.tmp rfl rfl) (.tmp rfl rfl) rfl rfl rfl rfl rfl rfl) ?_
        refine RK.nil ?_
        refine Ab.D.code ?_
        refine OK.seq ?_
        refine OK.regionDraw follows (.c (S.move .none rfl (.tmp rfl rfl))
          (.c (S.move .none rfl (.tmp rfl rfl))
          (.c (S.slice (hi := i) (l' := l.take i) si25 (fun _ => rfl) .none rfl (.tmp rfl rfl) (.inl ⟨rfl, rfl, rfl⟩) (.inr ⟨_, _, rfl, (.tmp rfl rfl), rfl⟩) (Nat.zero_le _) (by omega) rfl)
          (.c (S.move .none rfl (.tmp rfl rfl))
          (.c (S.move .none rfl (.tmp rfl rfl))
          (.c (S.add .none rfl (.tmp rfl rfl) (.cint rfl) (IntWalk.i64_in _ (by omega)) (IntWalk.i64_in _ (by omega)))
          (.c (S.slice (lo := (i + 1)) (l' := l.drop (i + 1)) si25 (fun _ => rfl) .none rfl (.tmp rfl rfl) (.inr ⟨_, _, rfl, (.tmp rfl rfl), (by omega)⟩) (.inl ⟨rfl, rfl, rfl⟩) (by omega) (Nat.le_refl _) (by rw [List.take_length]))
          (.c (S.mkData (rows := [[_], [_]]) ai167 .none rfl (.cons (.tmp rfl rfl) (.cons (.tmp rfl rfl) .nil)) rfl rfl rfl rfl rfl rfl rfl)
          (.c (S.call (kC) Tryz.call83 .none rfl (.cons (.tmp rfl rfl) .nil) rfl)
          (.c (S.assign .none rfl (.tmp rfl rfl))
          .nil)))))))))) (by kernel_rfl) ?_
        refine Ab.D.code ?_
        refine OK.seq ?_
        refine OK.regionDraw follows (.c (S.bloadN ti117 .none rfl (.tmp rfl rfl) rfl rfl rfl rfl)
          (.c (S.move .none rfl (.tmp rfl rfl))
          (.c (S.move .none rfl (.tmp rfl rfl))
          (.c (S.call (mon_envelope (l := others l i) q1 ⟨by omega, by omega⟩ hO.whole (trimErr_0 (by omega) hot)) Tryz.call63 .none rfl (.cons (.tmp rfl rfl) (.cons (.tmp rfl rfl) (.cons (.tmp rfl rfl) .nil))) rfl)
          (.c (S.bloadN ti51 .none rfl (.tmp rfl rfl) rfl rfl rfl rfl)
          (.c (S.call (mon_deviates hB.fit (by omega) (fun t h => by have := hB.vals t h; omega)) Tryz.call68 .none rfl (.cons (.tmp rfl rfl) (.cons (.tmp rfl rfl) .nil)) rfl)
          .nil)))))) (by kernel_rfl) ?_
        refine Ab.D.code ?_
        refine OK.cond rfl rfl (fun c58 => ?_) (fun c58 => ?_)
        ·
          rw [← hid] at c58
          refine OK.reg ?_
          refine RK.c (S.move .none rfl (.tmp rfl rfl)) ?_
          refine RK.c (S.move .none rfl (.tmp rfl rfl)) ?_
          refine RK.c (S.mkSlice (k := 61) (rows := [[_]]) ai57 .none rfl (.cons (.tmp rfl rfl) .nil) rfl rfl rfl rfl rfl rfl rfl) ?_
          refine RK.c (S.append ai57 .none rfl (.tmp rfl rfl) rfl (by simp) (.tmp rfl rfl) rfl (by first | rfl | (simp; done) | (simp; omega)) (by omega) (by simp only [maxLen]; omega)) ?_
          refine RK.c (S.assign .none rfl (.tmp rfl rfl)) ?_
          refine RK.nil ?_
          refine Ab.D.blk ?_
          refine Ab.D.code ?_
          refine OK.reg ?_
          refine RK.c (S.add .none rfl (.tmp rfl rfl) (.cint rfl) (IntWalk.i64_in _ (by omega)) (IntWalk.i64_in _ (by omega))) ?_
          refine RK.c (S.move .none rfl (.tmp rfl rfl)) ?_
          refine RK.nil ?_
          refine Ab.D.lp ⟨i + 1, (by omega), (by omega), rfl, rfl, rfl, rfl, (lk_own1 (by first | (rw [← alUp_T c58, List.length_append]; rfl) | rw [← alUp_F c58])), (lk_arr (by first | (rw [← alUp_T c58, List.map_append]; rfl) | rw [← alUp_F c58])), rfl, rfl, rfl, trivial⟩
        ·
          rw [← hid] at c58
          refine OK.skip ?_
          refine Ab.D.blk ?_
          refine Ab.D.code ?_
          refine OK.reg ?_
          refine RK.c (S.add .none rfl (.tmp rfl rfl) (.cint rfl) (IntWalk.i64_in _ (by omega)) (IntWalk.i64_in _ (by omega))) ?_
          refine RK.c (S.move .none rfl (.tmp rfl rfl)) ?_
          refine RK.nil ?_
          refine Ab.D.lp ⟨i + 1, (by omega), (by omega), rfl, rfl, rfl, rfl, (lk_own1 (by first | (rw [← alUp_T c58, List.length_append]; rfl) | rw [← alUp_F c58])), (lk_arr (by first | (rw [← alUp_T c58, List.map_append]; rfl) | rw [← alUp_F c58])), rfl, rfl, rfl, trivial⟩
      ·
        refine OK.exit rfl ?_
        refine Ab.D.code ?_
        refine OK.seq ?_
        refine OK.reg ?_
        refine RK.c (S.move .none rfl (.tmp rfl rfl)) ?_
        refine RK.c (S.assign .none rfl (.tmp rfl rfl)) ?_
        refine RK.c (S.assign .none rfl (.cint rfl)) ?_
        refine RK.nil ?_
        refine Ab.D.code ?_
        refine OK.ret (Ret.r2 (.tmp rfl rfl (.c (.own rfl rfl (by first | rfl | (simp; done) | (simp; omega))) rfl) rfl) (.tmp rfl rfl (.c (.same rfl) rfl) rfl) ?_)
        rw [if_pos he, he, show i = l.length by omega]
        rfl

theorem base_Size {n : Int} (hn : 0 ≤ n ∧ n ≤ 1000000000000) : Ct Tryz.prog 118 [.int .i64 n] (.int .i64 n) := by
  refine Ct.intro (rs := [.tmp 2]) Tryz.func118 rfl Tryz.ntmps118 Tryz.results118 rfl rfl rfl fun w h => ?_
  refine OK.seq ?_
  refine OK.reg ?_
  refine RK.c (S.assign .none rfl (.cint rfl)) ?_
  refine RK.nil ?_
  refine Ab.D.code ?_
  refine OK.seq ?_
  refine OK.reg ?_
  refine RK.c (S.move .none rfl (.tmp rfl rfl)) ?_
  refine RK.c (S.move .none rfl (.tmp rfl rfl)) ?_
  refine RK.c (S.neg .none rfl (.tmp rfl rfl) (IntWalk.i64_in _ (by omega)) (IntWalk.i64_in _ (by omega))) ?_
  refine RK.c (S.max2 .none rfl (.tmp rfl rfl) (.tmp rfl rfl)) ?_
  refine RK.c (S.assign .none rfl (.tmp rfl rfl)) ?_
  refine RK.nil ?_
  refine Ab.D.code ?_
  refine OK.ret (Ret.r1 (.tmp rfl rfl (.c (.same rfl) rfl) rfl) ?_)
  refine ret_i ?_
  split <;> omega

theorem base_Gcd {a b : Int} (ha : 0 ≤ a ∧ a ≤ 1000000000000) (hb : 0 ≤ b ∧ b ≤ 1000000000000) : Ct Tryz.prog 95 [.int .i64 a, .int .i64 b] (.int .i64 (gcdT a b)) := by
  refine Ct.intro (rs := [.tmp 4]) Tryz.func95 rfl Tryz.ntmps95 Tryz.results95 rfl rfl rfl fun w h => ?_
  refine OK.seq ?_
  refine OK.reg ?_
  refine RK.c (S.assign .none rfl (.cint rfl)) ?_
  refine RK.nil ?_
  refine Ab.D.code ?_
  refine OK.seq ?_
  refine OK.block ?_
  refine OK.loop2 [] (fun (x : Int) (y : Int) => [(0, .int .i64 x), (1, .int .i64 y)]) (fun x y => (0 ≤ x ∧ x ≤ 1000000000000) ∧ (0 ≤ y ∧ y ≤ 1000000000000) ∧ gcdT a b = gcdT x y) (fun x y => y.toNat) (a) (b) ⟨ha, hb, rfl⟩ ⟨rfl, rfl, trivial⟩ (fun _ _ => rfl) ?_
  rintro x y ⟨hx, hy, hg⟩
  refine OK.seq ?_
  refine OK.seq ?_
  refine OK.reg ?_
  refine RK.c (S.move .none rfl (.tmp rfl rfl)) ?_
  refine RK.c (S.neq .none rfl (.tmp rfl rfl) (.cint rfl)) ?_
  refine RK.nil ?_
  refine Ab.D.code ?_
  refine OK.condD rfl rfl (fun c6 => ?_) (fun c6 => ?_)
  ·
    have h3 : 0 ≤ x.tmod y := Int.tmod_nonneg y hx.1
    have h4 : x.tmod y < y := Int.tmod_lt_of_pos x (by omega)
    refine OK.skip ?_
    refine Ab.D.code ?_
    refine OK.block ?_
    refine OK.regionDraw follows (.c (S.move .none rfl (.tmp rfl rfl))
      (.c (S.move .none rfl (.tmp rfl rfl))
      (.c (S.move .none rfl (.tmp rfl rfl))
      (.c (S.rem .none rfl (.tmp rfl rfl) (.tmp rfl rfl) c6 rfl (IntWalk.i64_in _ (by omega)))
      (.c (S.assign .none rfl (.tmp rfl rfl))
      (.c (S.assign .none rfl (.tmp rfl rfl))
      .nil)))))) (by kernel_rfl) ?_
    refine Ab.D.blk ?_
    refine Ab.D.lp ⟨y, x.tmod y, ⟨hy, ⟨h3, by omega⟩, ?_⟩, (by omega), rfl, rfl, trivial⟩
    rw [hg, gcdT_step hx.1 hy.1 c6]
  ·
    refine OK.exit rfl ?_
    refine Ab.D.code ?_
    refine OK.seq ?_
    refine OK.reg ?_
    refine RK.c (S.move .none rfl (.tmp rfl rfl)) ?_
    refine RK.c (S.call (base_Size hx) Tryz.call118 .none rfl (.cons (.tmp rfl rfl) .nil) rfl) ?_
    refine RK.c (S.assign .none rfl (.tmp rfl rfl)) ?_
    refine RK.nil ?_
    refine Ab.D.code ?_
    refine OK.ret (Ret.r1 (.tmp rfl rfl (.c (.same rfl) rfl) rfl) ?_)
    have : y = 0 := by omega
    subst this
    rw [hg, gcdT_0]

theorem ref_Cells {p : Plan} (hp : planErr p = 0) : Ct Tryz.prog 50 [.agg p.cs] (.int .i64 (p.channels.length * p.ticks)) := by
  refine Ct.intro (rs := [.tmp 2]) Tryz.func50 rfl Tryz.ntmps50 Tryz.results50 rfl rfl rfl fun w h => ?_
  have hpp := planErr_0 hp
  have hm := mulb (a := p.channels.length) (A := 4) (b := p.ticks) (B := 12) (by omega) (by omega) (by omega) (by omega)
  refine OK.seq ?_
  refine OK.reg ?_
  refine RK.c (S.box (k := 1) rfl .none rfl (.tmp rfl rfl) rfl) ?_
  refine RK.c (S.assign .none rfl (.cint rfl)) ?_
  refine RK.nil ?_
  refine Ab.D.code ?_
  refine OK.seq ?_
  refine OK.reg ?_
  refine RK.c (S.bfield fi24_0 .none rfl (.tmp rfl rfl)) ?_
  refine RK.c (S.bload1 ti22 .none rfl (.tmp rfl rfl) rfl rfl rfl rfl) ?_
  refine RK.c (S.lenM si22 .none rfl (.tmp rfl rfl)) ?_
  refine RK.c (S.bfield fi24_1 .none rfl (.tmp rfl rfl)) ?_
  refine RK.c (S.bload1 ti3 .none rfl (.tmp rfl rfl) rfl rfl rfl rfl) ?_
  refine RK.c (S.mul .none rfl (.tmp rfl rfl) (.tmp rfl rfl) (IntWalk.i64_in _ (by omega)) (IntWalk.i64_in _ (by omega))) ?_
  refine RK.c (S.assign .none rfl (.tmp rfl rfl)) ?_
  refine RK.nil ?_
  refine Ab.D.code ?_
  refine OK.ret (Ret.r1 (.tmp rfl rfl (.c (.same rfl) rfl) rfl) ?_)
  rfl

theorem base_Lowest {a b : Int} (ha : 0 ≤ a ∧ a ≤ 1000000) (hb : 1 ≤ b ∧ b ≤ 1000000) : Ct Tryz.prog 54 [.int .i64 a, .int .i64 b] (.agg (Frac.cs ⟨a.tdiv (gcdT a b), b.tdiv (gcdT a b)⟩)) := by
  refine Ct.intro (rs := [.cell 4 74]) Tryz.func54 rfl Tryz.ntmps54 Tryz.results54 rfl rfl rfl fun w h => ?_
  have hgp := gcd_pos (a := a) (b := b) ha.1 (by omega)
  have ht1 := tdiv_bd ha hgp
  have ht2 := tdiv_bd (a := b) ⟨by omega, hb.2⟩ hgp
  refine OK.seq ?_
  refine OK.reg ?_
  refine RK.c (S.alloc (k := 4) ze74 rfl .none rfl) ?_
  refine RK.nil ?_
  refine Ab.D.code ?_
  refine OK.seq ?_
  refine OK.reg ?_
  refine RK.c (S.move .none rfl (.tmp rfl rfl)) ?_
  refine RK.c (S.move .none rfl (.tmp rfl rfl)) ?_
  refine RK.c (S.call (base_Gcd ⟨by omega, by omega⟩ ⟨by omega, by omega⟩) Tryz.call95 .none rfl (.cons (.tmp rfl rfl) (.cons (.tmp rfl rfl) .nil)) rfl) ?_
  refine RK.c (S.assign .none rfl (.tmp rfl rfl)) ?_
  refine RK.nil ?_
  refine Ab.D.code ?_
  refine OK.seq ?_
  refine OK.seq ?_
  refine OK.reg ?_
  refine RK.c (S.move .none rfl (.tmp rfl rfl)) ?_
  refine RK.c (S.lss .none rfl (.tmp rfl rfl) (.cint rfl)) ?_
  refine RK.nil ?_
  refine Ab.D.code ?_
  refine OK.condD rfl rfl (fun c10 => ?_) (fun c10 => ?_)
  ·
    exfalso
    omega
  ·
    refine OK.skip ?_
    refine Ab.D.code ?_
    refine OK.seq ?_
    refine OK.regionDraw follows (.c (S.move .none rfl (.tmp rfl rfl))
      (.c (S.move .none rfl (.tmp rfl rfl))
      (.c (S.quo .none rfl (.tmp rfl rfl) (.tmp rfl rfl) (by omega) (IntWalk.i64_in _ (by omega)) (IntWalk.i64_in _ (by omega)))
      (.c (S.move .none rfl (.tmp rfl rfl))
      (.c (S.move .none rfl (.tmp rfl rfl))
      (.c (S.quo .none rfl (.tmp rfl rfl) (.tmp rfl rfl) (by omega) (IntWalk.i64_in _ (by omega)) (IntWalk.i64_in _ (by omega)))
      (.c (S.build bu74 rfl .none rfl (.cons (.tmp rfl rfl) (.cons (.tmp rfl rfl) .nil)) rfl rfl)
      (.c (S.store ti74 .none (.tmp rfl rfl) (.tmp rfl rfl) rfl rfl rfl rfl rfl rfl)
      .nil)))))))) (by kernel_rfl) ?_
    refine Ab.D.code ?_
    refine OK.ret (Ret.r1 (.cellN rfl rfl rfl rfl ti74 rfl (.k (.same rfl) (.k (.same rfl) .z))) ?_)
    rfl

theorem ref_Bound {p : Plan} {parts trim : Int} (hp : planErr p = 0) (hn : 1 ≤ parts ∧ parts ≤ 20) (ht : trimErr trim parts = 0) : Ct Tryz.prog 36 [.agg p.cs, .int .i64 parts, .int .i64 trim] (.agg (alarmT p parts trim).cs) := by
  refine Ct.intro (rs := [.cell 6 74]) Tryz.func36 rfl Tryz.ntmps36 Tryz.results36 rfl rfl rfl fun w h => ?_
  have he : boundErr p parts trim = 0 := by rw [boundErr, if_neg (by omega), if_neg (by omega), ht]
  have hpp := planErr_0 hp
  have htr := trimErr_0 hn.1 ht
  obtain ⟨n1, n2, n3⟩ := num_bd he
  have hnb := boundNum_bd he
  have hbn : boundNum p parts trim = if 2 * (trim + 1) * p.channels.length * p.ticks < parts + 1 then 2 * (trim + 1) * p.channels.length * p.ticks else parts + 1 := rfl
  have hmu : 2 * (trim + 1) * (p.channels.length * p.ticks) = 2 * (trim + 1) * p.channels.length * p.ticks := (Int.mul_assoc _ _ _).symm
  refine OK.seq ?_
  refine OK.reg ?_
  refine RK.c (S.box (k := 3) rfl .none rfl (.tmp rfl rfl) rfl) ?_
  refine RK.c (S.alloc (k := 6) ze74 rfl .none rfl) ?_
  refine RK.nil ?_
  refine Ab.D.code ?_
  refine OK.seq ?_
  refine OK.reg ?_
  refine RK.c (S.move .none rfl (.tmp rfl rfl)) ?_
  refine RK.c (S.add .none rfl (.tmp rfl rfl) (.cint rfl) (IntWalk.i64_in _ (by omega)) (IntWalk.i64_in _ (by omega))) ?_
  refine RK.c (S.move .none rfl (.tmp rfl rfl)) ?_
  refine RK.c (S.add .none rfl (.tmp rfl rfl) (.cint rfl) (IntWalk.i64_in _ (by omega)) (IntWalk.i64_in _ (by omega))) ?_
  refine RK.c (S.mul .none rfl (.cint rfl) (.tmp rfl rfl) (IntWalk.i64_in _ (by omega)) (IntWalk.i64_in _ (by omega))) ?_
  refine RK.c (S.bloadN ti24 .none rfl (.tmp rfl rfl) rfl rfl rfl rfl) ?_
  refine RK.c (S.call (ref_Cells hp) Tryz.call50 .none rfl (.cons (.tmp rfl rfl) .nil) rfl) ?_
  refine RK.c (S.mul (q := (2 * (trim + 1) * p.channels.length * p.ticks)) .none rfl (.tmp rfl rfl) (.tmp rfl rfl) (by rw [hmu]; exact IntWalk.i64_in _ (by omega)) (IntWalk.i64_in _ (by omega))) ?_
  refine RK.c (S.min2 .none rfl (.tmp rfl rfl) (.tmp rfl rfl)) ?_
  refine RK.c (S.move .none rfl (.tmp rfl rfl)) ?_
  refine RK.c (S.add .none rfl (.tmp rfl rfl) (.cint rfl) (IntWalk.i64_in _ (by omega)) (IntWalk.i64_in _ (by omega))) ?_
  refine RK.c (S.call (base_Lowest (a := boundNum p parts trim) (b := parts + 1) (by omega) (by omega)) Tryz.call54 .none rfl (.cons (.tmp rfl rfl) (.cons (.tmp rfl rfl) .nil)) rfl) ?_
  refine RK.c (S.store ti74 .none (.tmp rfl rfl) (.tmp rfl rfl) rfl rfl rfl rfl rfl rfl) ?_
  refine RK.nil ?_
  refine Ab.D.code ?_
  refine OK.ret (Ret.r1 (.cellN rfl rfl rfl rfl ti74 rfl (.k (.same rfl) (.k (.same rfl) .z))) ?_)
  rw [alarmT, if_pos he]
  rfl

theorem ref_Alarms {p : Plan} {l : List Record} {trim : Int} (hL : LearnT p l) (hl2 : 2 ≤ l.length) (htz : trimErr trim ((l.length : Int) - 1) = 0) : Ct Tryz.prog 38 [.agg p.cs, .sl (l.map Record.cs), .int .i64 trim] (ints (alUp p l trim l.length)) := by
  refine Ct.intro (rs := [.tmp 6]) Tryz.func38 rfl Tryz.ntmps38 Tryz.results38 rfl rfl rfl fun w h => ?_
  have hLl := hL.len
  have htr := trimErr_0 (by omega) htz
  refine OK.seq ?_
  refine OK.reg ?_
  refine RK.c (S.box (k := 3) rfl .none rfl (.tmp rfl rfl) rfl) ?_
  refine RK.c (S.assign .none rfl .cnil) ?_
  refine RK.nil ?_
  refine Ab.D.code ?_
  refine OK.seq ?_
  refine OK.reg ?_
  refine RK.c (S.nilOwn (k := 7) (sz := 1) .none rfl) ?_
  refine RK.nil ?_
  refine Ab.D.code ?_
  refine OK.seq ?_
  refine OK.seq ?_
  refine OK.reg ?_
  refine RK.c (S.assign .none rfl (.cint rfl)) ?_
  refine RK.nil ?_
  refine Ab.D.code ?_
  refine OK.block ?_
  refine OK.loop (G := Nat) [3, 7] (fun i => [(1, .sl (l.map Record.cs)), (2, .int .i64 trim), (3, .ptr 3 0), (1003, .box p.cs), (7, .own 7 (alUp p l trim i).length), (2007, .arr 1 ((alUp p l trim i).map fun n => [.int .i64 n])), (8, .int .i64 i)]) (fun i => i ≤ l.length) (fun i => l.length - i) 0 (Nat.zero_le _) ⟨rfl, rfl, rfl, rfl, (lk_own (by first | rfl | (simp; done) | (simp; omega))), (lk_arr (by first | rfl | (simp; done) | (simp; omega))), rfl, trivial⟩ (fun _ => rfl) ?_
  rintro i hi
  refine OK.seq ?_
  refine OK.seq ?_
  refine OK.reg ?_
  refine RK.c (S.move .none rfl (.tmp rfl rfl)) ?_
  refine RK.c (S.move .none rfl (.tmp rfl rfl)) ?_
  refine RK.c (S.lenM si25 .none rfl (.tmp rfl rfl)) ?_
  refine RK.c (S.lss .none rfl (.tmp rfl rfl) (.tmp rfl rfl)) ?_
  refine RK.nil ?_
  refine Ab.D.code ?_
  refine OK.condD rfl rfl (fun c14 => ?_) (fun c14 => ?_)
  ·
    have hO := learn_others hL (show i < l.length by omega) hl2
    have hol := others_len (show i < l.length by omega)
    have hot : trimErr trim (others l i).length = 0 := by rw [hol, show ((l.length - 1 : Nat) : Int) = (l.length : Int) - 1 by omega]; exact htz
    have hB := learn_both hO hot hL (show i < l.length by omega)
    have hBr := hB.rows
    have hord := env_ord (show (envChk p (envT p (others l i) trim)).2 = 0 by rw [learn_valid hO hot])
    have hD := both_len hB
    have hid : isAl p l trim i = decide ((devT (envT p (others l i) trim) l[i]).length ≠ 0) := by rw [isAl, getD_at (by omega)]
    have hul := alUp_len p l trim i
    refine OK.skip ?_
    refine Ab.D.code ?_
    refine OK.seq ?_
    refine OK.block ?_
    refine OK.seq ?_
    refine OK.reg ?_
    refine RK.c (S.nilOwn (k := 9) (sz := 1) .none rfl) ?_
    refine RK.nil ?_
    refine Ab.D.code ?_
    refine OK.seq ?_
    refine OK.seq ?_
    refine OK.reg ?_
    refine RK.c (S.assign .none rfl (.cint rfl)) ?_
    refine RK.nil ?_
    refine Ab.D.code ?_
    refine OK.block ?_
    refine OK.loop (G := Nat) [3, 7, 9] (fun k => [(1, .sl (l.map Record.cs)), (2, .int .i64 trim), (3, .ptr 3 0), (1003, .box p.cs), (7, .own 7 (alUp p l trim i).length), (2007, .arr 1 ((alUp p l trim i).map fun n => [.int .i64 n])), (8, .int .i64 i), (9, .own 9 (oth l i k).length), (2009, .arr 1 ((oth l i k).map Record.cs)), (10, .int .i64 k)]) (fun k => k ≤ l.length) (fun k => l.length - k) 0 (Nat.zero_le _) ⟨rfl, rfl, rfl, rfl, (lk_own (by first | rfl | (simp; done) | (simp; omega))), (lk_arr (by first | rfl | (simp; done) | (simp; omega))), rfl, (lk_own1 (by simp [oth])), (lk_arr (by simp [oth])), rfl, trivial⟩ (fun _ => rfl) ?_
    rintro k hk
    refine OK.seq ?_
    refine OK.seq ?_
    refine OK.reg ?_
    refine RK.c (S.move .none rfl (.tmp rfl rfl)) ?_
    refine RK.c (S.move .none rfl (.tmp rfl rfl)) ?_
    refine RK.c (S.lenM si25 .none rfl (.tmp rfl rfl)) ?_
    refine RK.c (S.lss .none rfl (.tmp rfl rfl) (.tmp rfl rfl)) ?_
    refine RK.nil ?_
    refine Ab.D.code ?_
    refine OK.condD rfl rfl (fun c20 => ?_) (fun c20 => ?_)
    ·
      have hth := oth_len l i k
      refine OK.skip ?_
      refine Ab.D.code ?_
      refine OK.seq ?_
      refine OK.block ?_
      refine OK.seq ?_
      refine OK.reg ?_
      refine RK.c (S.move .none rfl (.tmp rfl rfl)) ?_
      refine RK.c (S.move .none rfl (.tmp rfl rfl)) ?_
      refine RK.c (S.neq .none rfl (.tmp rfl rfl) (.tmp rfl rfl)) ?_
      refine RK.nil ?_
      refine Ab.D.code ?_
      refine OK.condD rfl rfl (fun c25 => ?_) (fun c25 => ?_)
      ·
        refine OK.reg ?_
        refine RK.c (S.move .none rfl (.tmp rfl rfl)) ?_
        refine RK.c (S.move .none rfl (.tmp rfl rfl)) ?_
        refine RK.c (S.move .none rfl (.tmp rfl rfl)) ?_
        refine RK.c (S.indexM si25 .none rfl (.tmp rfl rfl) (.tmp rfl rfl) rfl (by omega) rfl) ?_
        refine RK.c (S.loadN ti51 .none rfl (.tmp rfl rfl) rfl rfl) ?_
        refine RK.c (S.mkSlice (k := 31) (rows := [[_]]) ai25 .none rfl (.cons (.tmp rfl rfl) .nil) rfl rfl rfl rfl rfl rfl rfl) ?_
        refine RK.c (S.append ai25 .none rfl (.tmp rfl rfl) rfl (by simp only [List.length_map]) (.tmp rfl rfl) rfl (by first | rfl | (simp; done) | (simp; omega)) (by omega) (by simp only [maxLen]; omega)) ?_
        refine RK.c (S.assign .none rfl (.tmp rfl rfl)) ?_
        refine RK.nil ?_
        refine Ab.D.blk ?_
        refine Ab.D.code ?_
        refine OK.reg ?_
        refine RK.c (S.move .none rfl (.tmp rfl rfl)) ?_
        refine RK.c (S.add .none rfl (.tmp rfl rfl) (.cint rfl) (IntWalk.i64_in _ (by omega)) (IntWalk.i64_in _ (by omega))) ?_
        refine RK.c (S.assign .none rfl (.tmp rfl rfl)) ?_
        refine RK.nil ?_
        refine Ab.D.lp ⟨k + 1, (by omega), (by omega), rfl, rfl, rfl, rfl, (lk_own (by first | rfl | (simp; done) | (simp; omega))), (lk_arr (by first | rfl | (simp; done) | (simp; omega))), rfl, (lk_own1 (by first | (rw [← oth_ne (by omega) c25, List.length_append]; rfl) | rw [← oth_eq (by omega) c25])), (lk_arr (by first | (rw [← oth_ne (by omega) c25, List.map_append]; rfl) | rw [← oth_eq (by omega) c25])), rfl, trivial⟩
      ·
        refine OK.skip ?_
        refine Ab.D.blk ?_
        refine Ab.D.code ?_
        refine OK.reg ?_
        refine RK.c (S.move .none rfl (.tmp rfl rfl)) ?_
        refine RK.c (S.add .none rfl (.tmp rfl rfl) (.cint rfl) (IntWalk.i64_in _ (by omega)) (IntWalk.i64_in _ (by omega))) ?_
        refine RK.c (S.assign .none rfl (.tmp rfl rfl)) ?_
        refine RK.nil ?_
        refine Ab.D.lp ⟨k + 1, (by omega), (by omega), rfl, rfl, rfl, rfl, (lk_own (by first | rfl | (simp; done) | (simp; omega))), (lk_arr (by first | rfl | (simp; done) | (simp; omega))), rfl, (lk_own1 (by first | (rw [← oth_ne (by omega) c25, List.length_append]; rfl) | rw [← oth_eq (by omega) c25])), (lk_arr (by first | (rw [← oth_ne (by omega) c25, List.map_append]; rfl) | rw [← oth_eq (by omega) c25])), rfl, trivial⟩
    ·
      refine OK.exit rfl ?_
      refine Ab.D.code ?_
      refine OK.seq ?_
      have hkl : k = l.length := by omega
      subst hkl
      rw [oth_all] at *
      refine OK.freeze 9 rfl rfl rfl (by simp only [List.length_map]) ?_
      refine OK.regionDraw follows (.c (S.bloadN ti24 .none rfl (.tmp rfl rfl) rfl rfl rfl rfl)
        (.c (S.move .none rfl (.tmp rfl rfl))
        (.c (S.move .none rfl (.tmp rfl rfl))
        (.c (S.call (ref_Envelope (l := others l i) hL.plan ⟨by omega, by omega⟩ hO.whole (trimErr_0 (by omega) hot)) Tryz.call19 .none rfl (.cons (.tmp rfl rfl) (.cons (.tmp rfl rfl) (.cons (.tmp rfl rfl) .nil))) rfl)
        (.c (S.move .none rfl (.tmp rfl rfl))
        (.c (S.move .none rfl (.tmp rfl rfl))
        (.c (S.indexM si25 .none rfl (.tmp rfl rfl) (.tmp rfl rfl) rfl (by omega) rfl)
        (.c (S.loadN ti51 .none rfl (.tmp rfl rfl) rfl rfl)
        (.c (S.call (ref_Deviations hB.fit (by omega) (fun t h => by have := hB.vals t h; omega) hord hD) Tryz.call32 .none rfl (.cons (.tmp rfl rfl) (.cons (.tmp rfl rfl) .nil)) rfl)
        (.c (S.lenM si63 .none rfl (.tmp rfl rfl))
        (.c (S.gtr .none rfl (.tmp rfl rfl) (.cint rfl))
        .nil))))))))))) (by kernel_rfl) ?_
      refine Ab.D.code ?_
      refine OK.condD rfl rfl (fun c43 => ?_) (fun c43 => ?_)
      ·
        have hia : isAl p l trim i = true := by rw [hid]; exact decide_eq_true (by omega)
        refine OK.reg ?_
        refine RK.c (S.move .none rfl (.tmp rfl rfl)) ?_
        refine RK.c (S.move .none rfl (.tmp rfl rfl)) ?_
        refine RK.c (S.mkSlice (k := 46) (rows := [[_]]) ai57 .none rfl (.cons (.tmp rfl rfl) .nil) rfl rfl rfl rfl rfl rfl rfl) ?_
        refine RK.c (S.append ai57 .none rfl (.tmp rfl rfl) rfl (by simp only [List.length_map]) (.tmp rfl rfl) rfl (by first | rfl | (simp; done) | (simp; omega)) (by omega) (by simp only [maxLen]; omega)) ?_
        refine RK.c (S.assign .none rfl (.tmp rfl rfl)) ?_
        refine RK.nil ?_
        refine Ab.D.blk ?_
        refine Ab.D.code ?_
        refine OK.reg ?_
        refine RK.c (S.move .none rfl (.tmp rfl rfl)) ?_
        refine RK.c (S.add .none rfl (.tmp rfl rfl) (.cint rfl) (IntWalk.i64_in _ (by omega)) (IntWalk.i64_in _ (by omega))) ?_
        refine RK.c (S.assign .none rfl (.tmp rfl rfl)) ?_
        refine RK.nil ?_
        refine Ab.D.lp ⟨i + 1, (by omega), (by omega), rfl, rfl, rfl, rfl, (lk_own1 (by first | (rw [← alUp_T hia, List.length_append]; rfl) | rw [← alUp_F hia])), (lk_arr (by first | (rw [← alUp_T hia, List.map_append]; rfl) | rw [← alUp_F hia])), rfl, trivial⟩
      ·
        have hia : isAl p l trim i = false := by rw [hid]; exact decide_eq_false (by omega)
        refine OK.skip ?_
        refine Ab.D.blk ?_
        refine Ab.D.code ?_
        refine OK.reg ?_
        refine RK.c (S.move .none rfl (.tmp rfl rfl)) ?_
        refine RK.c (S.add .none rfl (.tmp rfl rfl) (.cint rfl) (IntWalk.i64_in _ (by omega)) (IntWalk.i64_in _ (by omega))) ?_
        refine RK.c (S.assign .none rfl (.tmp rfl rfl)) ?_
        refine RK.nil ?_
        refine Ab.D.lp ⟨i + 1, (by omega), (by omega), rfl, rfl, rfl, rfl, (lk_own1 (by first | (rw [← alUp_T hia, List.length_append]; rfl) | rw [← alUp_F hia])), (lk_arr (by first | (rw [← alUp_T hia, List.map_append]; rfl) | rw [← alUp_F hia])), rfl, trivial⟩
  ·
    refine OK.exit rfl ?_
    refine Ab.D.code ?_
    refine OK.seq ?_
    refine OK.reg ?_
    refine RK.c (S.move .none rfl (.tmp rfl rfl)) ?_
    refine RK.c (S.assign .none rfl (.tmp rfl rfl)) ?_
    refine RK.nil ?_
    refine Ab.D.code ?_
    refine OK.ret (Ret.r1 (.tmp rfl rfl (.c (.own rfl rfl (by first | rfl | (simp; done) | (simp; omega))) rfl) rfl) ?_)
    rw [show i = l.length by omega]
    rfl

end Go.Proofs.YtfjldfkgjejpmaaGreat
