import Derived.Test.YtpmglnphhhlbdaaGreatDoorFs
import Derived.Test.YtpmglnphhhlbdaaGreatDoorFx
import Derived.Test.YtpmglnphhhlbdaaGreatDoorSh
import Derived.Test.YtpmglnphhhlbdaaGreatDoorWn
import Derived.Test.YtpmglnphhhlbdaaGreatDoorWz0
import Derived.Test.YtpmglnphhhlbdaaGreatDoorYa
namespace Go.Proofs.YtpmglnphhhlbdaaGreatDoor
open Go.Ab
theorem ref_FrameErr {p : Plan} {f : Frame} (hpt : 1 ≤ p.ticks ∧ p.ticks ≤ 12) : Ct Tryz.prog 28 [.agg p.cs, .agg f.cs] (.int .i64 (frameE p f)) := by
 refine Ct.intro (rs := [.tmp 4]) Tryz.func28 rfl Tryz.ntmps28 Tryz.results28 rfl rfl rfl fun w h => ?_
 refine OK.aggLen 1 1 (f.values.map fun n => [.int .i64 n]) rfl rfl rfl fun hlen => ?_
 rw [List.length_map] at hlen
 unfold maxLen at hlen
 refine OK.seq (OK.reg ?_)
 refine RK.c (S.box (k := 2) rfl .none rfl (.tmp rfl rfl) rfl) ?_
 refine RK.c (S.box (k := 3) rfl .none rfl (.tmp rfl rfl) rfl) ?_
 refine RK.c (S.assign .none rfl (.cint rfl)) ?_
 refine RK.nil (Ab.D.code (OK.seq (OK.seq (OK.reg ?_))))
 refine RK.c (S.bfield fi27_0 .none rfl (.tmp rfl rfl)) ?_
 refine RK.c (S.bload1 ti3 .none rfl (.tmp rfl rfl) rfl rfl rfl rfl) ?_
 refine RK.c (S.bfield fi24_1 .none rfl (.tmp rfl rfl)) ?_
 refine RK.c (S.bload1 ti3 .none rfl (.tmp rfl rfl) rfl rfl rfl rfl) ?_
 refine RK.c (S.sub .none rfl (.tmp rfl rfl) (.cint rfl) (IntWalk.i64_in _ (by omega)) (IntWalk.i64_in _ (by omega))) ?_
 refine RK.c (S.call (base_Within) Tryz.call74 .none rfl (.cons (.tmp rfl rfl) (.cons (.cint rfl) (.cons (.tmp rfl rfl) .nil))) rfl) ?_
 refine RK.c (S.notD .none rfl (.tmp rfl rfl)) ?_
 refine RK.nil (Ab.D.code ?_)
 refine OK.condD rfl rfl (fun c12 => ?_) (fun c12 => ?_)
 ·
  refine OK.seq (OK.reg ?_)
  refine RK.c (S.assign .none rfl (.cint rfl)) ?_
  refine RK.nil (Ab.D.code ?_)
  refine OK.ret (Ret.r1 (.tmp rfl rfl (.c (.same rfl) rfl) rfl) ?_)
  refine ret_i ?_
  rw [frameE, if_pos c12]
 ·
  have hin : 0 ≤ f.tick ∧ f.tick ≤ p.ticks - 1 := Decidable.not_not.1 c12
  have hfe : frameE p f = valuesErr p f.values := by rw [frameE, if_neg (by simpa using hin)]
  refine OK.skip ?_
  refine Ab.D.code (OK.seq (OK.seq (OK.reg ?_)))
  refine RK.c (S.bfield fi27_1 .none rfl (.tmp rfl rfl)) ?_
  refine RK.c (S.bload1 ti25 .none rfl (.tmp rfl rfl) rfl rfl rfl rfl) ?_
  refine RK.c (S.lenM si25 .none rfl (.tmp rfl rfl)) ?_
  refine RK.c (S.bfield fi24_0 .none rfl (.tmp rfl rfl)) ?_
  refine RK.c (S.bload1 ti22 .none rfl (.tmp rfl rfl) rfl rfl rfl rfl) ?_
  refine RK.c (S.lenM si22 .none rfl (.tmp rfl rfl)) ?_
  refine RK.c (S.neq .none rfl (.tmp rfl rfl) (.tmp rfl rfl)) ?_
  refine RK.nil (Ab.D.code ?_)
  refine OK.condD rfl rfl (fun c19 => ?_) (fun c19 => ?_)
  ·
   refine OK.seq (OK.reg ?_)
   refine RK.c (S.assign .none rfl (.cint rfl)) ?_
   refine RK.nil (Ab.D.code ?_)
   refine OK.ret (Ret.r1 (.tmp rfl rfl (.c (.same rfl) rfl) rfl) ?_)
   refine ret_i ?_
   rw [hfe, valuesErr, if_pos (by omega)]
  ·
   have hvl : f.values.length = p.channels.length := by omega
   refine OK.skip ?_
   refine Ab.D.code (OK.seq (OK.seq (OK.reg ?_)))
   refine RK.c (S.assign .none rfl (.cint rfl)) ?_
   refine RK.nil (Ab.D.code ?_)
   refine OK.block ?_
   refine OK.loop (G := Nat) [2, 3] (fun i => [(2, .ptr 2 0), (1002, .box p.cs), (3, .ptr 3 0), (1003, .box f.cs), (5, .int .i64 i)]) (fun i => i ≤ f.values.length ∧ f.values.all isVal = (f.values.drop i).all isVal) (fun i => f.values.length - i) 0 ⟨Nat.zero_le _, rfl⟩ ⟨rfl, rfl, rfl, rfl, rfl, trivial⟩ (fun _ => rfl) ?_
   rintro i ⟨hi, hg⟩
   refine OK.seq (OK.seq (OK.reg ?_))
   refine RK.c (S.move .none rfl (.tmp rfl rfl)) ?_
   refine RK.c (S.bfield fi27_1 .none rfl (.tmp rfl rfl)) ?_
   refine RK.c (S.bload1 ti25 .none rfl (.tmp rfl rfl) rfl rfl rfl rfl) ?_
   refine RK.c (S.lenM si25 .none rfl (.tmp rfl rfl)) ?_
   refine RK.c (S.lss .none rfl (.tmp rfl rfl) (.tmp rfl rfl)) ?_
   refine RK.nil (Ab.D.code ?_)
   refine OK.condD rfl rfl (fun c24 => ?_) (fun c24 => ?_)
   ·
    refine OK.skip ?_
    refine Ab.D.code ?_
    refine OK.seq ?_
    refine OK.block ?_
    refine OK.seq (OK.reg ?_)
    refine RK.c (S.bfield fi27_1 .none rfl (.tmp rfl rfl)) ?_
    refine RK.c (S.bload1 ti25 .none rfl (.tmp rfl rfl) rfl rfl rfl rfl) ?_
    refine RK.c (S.move .none rfl (.tmp rfl rfl)) ?_
    refine RK.c (S.indexM (n := i) si25 .none rfl (.tmp rfl rfl) (.tmp rfl rfl) rfl (by omega) rfl) ?_
    refine RK.c (S.load1 ti3 .none rfl (.tmp rfl rfl) rfl) ?_
    refine RK.c (S.call (ref_isValue) Tryz.call75 .none rfl (.cons (.tmp rfl rfl) .nil) rfl) ?_
    refine RK.c (S.notD .none rfl (.tmp rfl rfl)) ?_
    refine RK.nil (Ab.D.code ?_)
    refine OK.condD rfl rfl (fun c33 => ?_) (fun c33 => ?_)
    ·
     refine OK.seq (OK.reg ?_)
     refine RK.c (S.assign .none rfl (.cint rfl)) ?_
     refine RK.nil (Ab.D.code ?_)
     refine OK.ret (Ret.r1 (.tmp rfl rfl (.c (.same rfl) rfl) rfl) ?_)
     refine ret_i ?_
     rw [hfe, vals_drop_F (by omega) hvl hg (by simpa using c33)]
    ·
     refine OK.skip ?_
     refine Ab.D.blk ?_
     refine Ab.D.code (OK.reg ?_)
     refine RK.c (S.move .none rfl (.tmp rfl rfl)) ?_
     refine RK.c (S.add .none rfl (.tmp rfl rfl) (.cint rfl) (IntWalk.i64_in _ (by omega)) (IntWalk.i64_in _ (by omega))) ?_
     refine RK.c (S.assign .none rfl (.tmp rfl rfl)) ?_
     refine RK.nil ?_
     refine Ab.D.lp ⟨i + 1, ⟨by omega, vals_drop_T (by omega) hg (by simpa using c33)⟩, (by omega), rfl, rfl, rfl, rfl, rfl, trivial⟩
   ·
    refine OK.exit rfl ?_
    refine Ab.D.code (OK.seq (OK.reg ?_))
    refine RK.c (S.assign .none rfl (.cint rfl)) ?_
    refine RK.nil (Ab.D.code ?_)
    refine OK.ret (Ret.r1 (.tmp rfl rfl (.c (.same rfl) rfl) rfl) ?_)
    refine ret_i ?_
    rw [hfe, valuesErr, if_neg (by omega), hg, show i = f.values.length by omega, List.drop_length]
    rfl
theorem ref_CopyFrame {f : Frame} (hv : f.values.length ≤ 100000) : Ct Tryz.prog 12 [.agg f.cs] (.agg f.cs) := by
 refine Ct.intro (rs := [.cell 2 27]) Tryz.func12 rfl Tryz.ntmps12 Tryz.results12 rfl rfl rfl fun w h => ?_
 refine OK.seq (OK.reg ?_)
 refine RK.c (S.box (k := 1) rfl .none rfl (.tmp rfl rfl) rfl) ?_
 refine RK.c (S.alloc (k := 2) ze27 rfl .none rfl) ?_
 refine RK.nil (Ab.D.code ?_)
 refine OK.seq ?_
 refine OK.regionDraw follows (.c (S.bfield fi27_0 .none rfl (.tmp rfl rfl))
  (.c (S.bload1 ti3 .none rfl (.tmp rfl rfl) rfl rfl rfl rfl)
  (.c (S.bfield fi27_1 .none rfl (.tmp rfl rfl))
  (.c (S.bload1 ti25 .none rfl (.tmp rfl rfl) rfl rfl rfl rfl)
  (.c (S.call (base_CopyInts (l := f.values) hv) Tryz.call56 .none rfl (.cons (.tmp rfl rfl) .nil) rfl)
  (.c (S.build bu27 rfl .none rfl (.cons (.tmp rfl rfl) (.cons (.tmp rfl rfl) .nil)) rfl rfl)
  (.c (S.store ti27 .none (.tmp rfl rfl) (.tmp rfl rfl) rfl rfl rfl rfl rfl rfl)
  .nil))))))) (by kernel_rfl) ?_
 refine Ab.D.code ?_
 refine OK.ret (Ret.r1 (.cellN rfl rfl rfl rfl ti27 rfl (.k (.same rfl) (.k (.same rfl) .z))) ?_)
 rfl
end Go.Proofs.YtpmglnphhhlbdaaGreatDoor
namespace Go.Proofs.YtpmglnphhhlbdaaGreatDoor
open Go.Ab
def before (l : List Int) (x : Int) (i k : Nat) : Nat := (l.take k).countP (fun y => decide (y < x)) + ((l.take k).take i).countP fun y => decide (y = x)
structure LearnedX where
  records : List Record
  trim : Int
def LearnedX.cs (x : LearnedX) : List X := [.sl (x.records.map Record.cs), .int .i64 x.trim]
theorem ref_TrimErr {t n : Int} (hn : -1000000000000 ≤ n ∧ n ≤ 1000000000000) : Ct Tryz.prog 78 [.int .i64 t, .int .i64 n] (.int .i64 (trimErr t n)) := by
 refine Ct.intro (rs := [.tmp 4]) Tryz.func78 rfl Tryz.ntmps78 Tryz.results78 rfl rfl rfl fun w h => ?_
 refine OK.seq (OK.reg ?_)
 refine RK.c (S.assign .none rfl (.cint rfl)) ?_
 refine RK.nil (Ab.D.code (OK.seq (OK.seq (OK.reg ?_))))
 refine RK.c (S.move .none rfl (.tmp rfl rfl)) ?_
 refine RK.c (S.move .none rfl (.tmp rfl rfl)) ?_
 refine RK.c (S.sub .none rfl (.tmp rfl rfl) (.cint rfl) (IntWalk.i64_in _ (by omega)) (IntWalk.i64_in _ (by omega))) ?_
 refine RK.c (S.quo .none rfl (.tmp rfl rfl) (.cint rfl) (by decide) (IntWalk.i64_in _ (tdiv2_bd hn)) (IntWalk.i64_in _ (tdiv2_bd hn))) ?_
 refine RK.c (S.call (base_Within) Tryz.call74 .none rfl (.cons (.tmp rfl rfl) (.cons (.cint rfl) (.cons (.tmp rfl rfl) .nil))) rfl) ?_
 refine RK.c (S.notD .none rfl (.tmp rfl rfl)) ?_
 refine RK.nil (Ab.D.code ?_)
 refine OK.condD rfl rfl (fun c10 => ?_) (fun c10 => ?_)
 ·
  refine OK.seq (OK.reg ?_)
  refine RK.c (S.assign .none rfl (.cint rfl)) ?_
  refine RK.nil (Ab.D.code ?_)
  refine OK.ret (Ret.r1 (.tmp rfl rfl (.c (.same rfl) rfl) rfl) ?_)
  refine ret_i ?_
  rw [trimErr, if_neg (by simpa using c10)]
 ·
  refine OK.skip ?_
  refine Ab.D.code (OK.seq (OK.reg ?_))
  refine RK.c (S.assign .none rfl (.cint rfl)) ?_
  refine RK.nil (Ab.D.code ?_)
  refine OK.ret (Ret.r1 (.tmp rfl rfl (.c (.same rfl) rfl) rfl) ?_)
  refine ret_i ?_
  rw [trimErr, if_pos (by simpa using c10)]
end Go.Proofs.YtpmglnphhhlbdaaGreatDoor
namespace Go.Proofs.YtpmglnphhhlbdaaGreatDoor
open Go.Ab
theorem sh_range {xs : List X} (h : Shape (.st (.cons (.int .i64) (.cons (.int .i64) .nil))) xs) : ∃ p : Range, xs = p.cs := by
  obtain ⟨a, b, rfl, ⟨n1, rfl⟩, c, d, rfl, ⟨n2, rfl⟩, rfl⟩ := h
  exact ⟨⟨n1, n2⟩, rfl⟩
theorem sh_envelope {xs : List X} (h : Shape (.cons (.int .i64) (.cons (.int .i64) (.cons (.sl (.sl (.st (.cons (.int .i64) (.cons (.int .i64) .nil))))) .nil))) xs) : ∃ p : Envelope, xs = p.cs := by
  obtain ⟨a, b, rfl, ⟨n1, rfl⟩, c, d, rfl, ⟨n2, rfl⟩, e, f, rfl, ⟨rows, rfl, hr⟩, rfl⟩ := h
  obtain ⟨l, rfl⟩ := rows_of (f := fun l : List Range => [X.sl (l.map Range.cs)]) (fun r h => by
    obtain ⟨rows2, h1, hr2⟩ := hr r h
    obtain ⟨l2, rfl⟩ := rows_of (f := Range.cs) (fun r h => sh_range (hr2 r h))
    exact ⟨l2, h1⟩)
  exact ⟨⟨n1, n2, l⟩, rfl⟩
theorem trimErr_2 {t n : Int} (h : trimErr t n ≠ 0) : trimErr t n = 2 := by
  unfold trimErr at *
  split
  · rename_i h1; rw [if_pos h1] at h; exact absurd rfl h
  · rfl
def shortEnvT (x : Envelope) : Bool := decide (x.rows.length ≤ 14) && x.rows.all fun l => decide (l.length ≤ 6)
theorem shortEnv_len {x : Envelope} (h : shortEnvT x = true) : x.rows.length ≤ 14 ∧ ∀ (i : Nat) (h : i < x.rows.length), x.rows[i].length ≤ 6 := by
  unfold shortEnvT at h
  simp only [Bool.and_eq_true, decide_eq_true_eq] at h
  exact ⟨h.1, fun i hi => of_decide_eq_true (List.all_eq_true.1 h.2 _ (List.getElem_mem hi))⟩
theorem rows_drop {α : Type} (g : α → Int) {l : List α} {j : Nat} (h : j < l.length) (hg : eachGo (fun _ x => g x) 0 l = eachGo (fun _ x => g x) j (l.drop j)) (e : g l[j] = 0) : eachGo (fun _ x => g x) 0 l = eachGo (fun _ x => g x) (j + 1) (l.drop (j + 1)) := by
  rw [hg, eachGo_drop _ h, if_neg (by rw [e]; simp)]
theorem rows_hit {α : Type} (g : α → Int) {l : List α} {j : Nat} {q : Int} (h : j < l.length) (hg : eachGo (fun _ x => g x) 0 l = eachGo (fun _ x => g x) j (l.drop j)) (e : g l[j] = q) (hq : q ≠ 0) : eachGo (fun _ x => g x) 0 l = ((j : Int), q) := by
  rw [hg, eachGo_drop _ h, if_pos (by rw [e]; exact hq), e]
theorem ref_CheckEnvelope {p : Plan} {x : Envelope} : Ct Tryz.prog 76 [.agg p.cs, .agg x.cs] (pair (envChk p x)) := by
 refine Ct.intro (rs := [.tmp 4, .tmp 5]) Tryz.func76 rfl Tryz.ntmps76 Tryz.results76 rfl rfl rfl fun w h => ?_
 refine OK.aggLen 1 2 (x.rows.map (fun l => [X.sl (l.map Range.cs)])) rfl rfl rfl fun hlen => ?_
 rw [List.length_map] at hlen
 unfold maxLen at hlen
 refine OK.aggLen 0 0 (p.channels.map fun s => [.str s]) rfl rfl rfl fun hlenp => ?_
 rw [List.length_map] at hlenp
 unfold maxLen at hlenp
 refine OK.seq (OK.reg ?_)
 refine RK.c (S.box (k := 2) rfl .none rfl (.tmp rfl rfl) rfl) ?_
 refine RK.c (S.box (k := 3) rfl .none rfl (.tmp rfl rfl) rfl) ?_
 refine RK.c (S.assign .none rfl (.cint rfl)) ?_
 refine RK.c (S.assign .none rfl (.cint rfl)) ?_
 refine RK.nil (Ab.D.code (OK.seq (OK.seq (OK.reg ?_))))
 refine RK.c (S.bfield fi30_0 .none rfl (.tmp rfl rfl)) ?_
 refine RK.c (S.bload1 ti3 .none rfl (.tmp rfl rfl) rfl rfl rfl rfl) ?_
 refine RK.c (S.call (base_Within) Tryz.call74 .none rfl (.cons (.tmp rfl rfl) (.cons (.cint rfl) (.cons (.cint rfl) .nil))) rfl) ?_
 refine RK.c (S.notD .none rfl (.tmp rfl rfl)) ?_
 refine RK.c (S.move .none rfl (.tmp rfl rfl)) ?_
 refine RK.splitD (t := 13) rfl (fun g13 => ?_) (fun g13 => ?_)
 ·
  refine RK.c (S.skip rfl rfl rfl rfl rfl) ?_
  refine RK.c (S.skip rfl rfl rfl rfl rfl) ?_
  refine RK.c (S.skip rfl rfl rfl rfl rfl) ?_
  refine RK.c (S.skip rfl rfl rfl rfl rfl) ?_
  refine RK.c (S.skip rfl rfl rfl rfl rfl) ?_
  refine RK.c (S.skip rfl rfl rfl rfl rfl) ?_
  refine RK.c (S.pickT .none rfl (.tmp rfl rfl) .cbool rfl) ?_
  refine RK.nil (Ab.D.code ?_)
  refine OK.condT rfl rfl rfl ?_
  refine OK.seq (OK.reg ?_)
  refine RK.c (S.assign .none rfl (.cint rfl)) ?_
  refine RK.c (S.assign .none rfl (.cint rfl)) ?_
  refine RK.nil (Ab.D.code ?_)
  refine OK.ret (Ret.r2 (.tmp rfl rfl (.c (.same rfl) rfl) rfl) (.tmp rfl rfl (.c (.same rfl) rfl) rfl) ?_)
  refine ret_p ?_
  rw [envChk, if_pos (by simpa using g13)]
 ·
  refine RK.c (S.bfield fi30_1 (.yes rfl rfl rfl rfl) rfl (.tmp rfl rfl)) ?_
  refine RK.c (S.bload1 ti3 (.yes rfl rfl rfl rfl) rfl (.tmp rfl rfl) rfl rfl rfl rfl) ?_
  refine RK.c (S.bfield fi30_0 (.yes rfl rfl rfl rfl) rfl (.tmp rfl rfl)) ?_
  refine RK.c (S.bload1 ti3 (.yes rfl rfl rfl rfl) rfl (.tmp rfl rfl) rfl rfl rfl rfl) ?_
  refine RK.c (S.call (ref_TrimErr (by omega)) Tryz.call78 (.yes rfl rfl rfl rfl) rfl (.cons (.tmp rfl rfl) (.cons (.tmp rfl rfl) .nil)) rfl) ?_
  refine RK.c (S.neq (.yes rfl rfl rfl rfl) rfl (.tmp rfl rfl) (.cint rfl)) ?_
  refine RK.c (S.pickF .none rfl (.tmp rfl rfl) (.tmp rfl rfl) rfl) ?_
  refine RK.nil (Ab.D.code ?_)
  refine OK.condD rfl rfl (fun c20 => ?_) (fun c20 => ?_)
  ·
   refine OK.seq (OK.reg ?_)
   refine RK.c (S.assign .none rfl (.cint rfl)) ?_
   refine RK.c (S.assign .none rfl (.cint rfl)) ?_
   refine RK.nil (Ab.D.code ?_)
   refine OK.ret (Ret.r2 (.tmp rfl rfl (.c (.same rfl) rfl) rfl) (.tmp rfl rfl (.c (.same rfl) rfl) rfl) ?_)
   refine ret_p ?_
   rw [envChk, if_neg (by omega), if_pos c20, trimErr_2 c20]
  ·
   refine OK.skip ?_
   refine Ab.D.code (OK.seq (OK.seq (OK.reg ?_)))
   refine RK.c (S.bfield fi30_2 .none rfl (.tmp rfl rfl)) ?_
   refine RK.c (S.bload1 ti28 .none rfl (.tmp rfl rfl) rfl rfl rfl rfl) ?_
   refine RK.c (S.lenM si28 .none rfl (.tmp rfl rfl)) ?_
   refine RK.c (S.bfield fi24_1 .none rfl (.tmp rfl rfl)) ?_
   refine RK.c (S.bload1 ti3 .none rfl (.tmp rfl rfl) rfl rfl rfl rfl) ?_
   refine RK.c (S.neq .none rfl (.tmp rfl rfl) (.tmp rfl rfl)) ?_
   refine RK.nil (Ab.D.code ?_)
   refine OK.condD rfl rfl (fun c26 => ?_) (fun c26 => ?_)
   ·
    refine OK.seq (OK.reg ?_)
    refine RK.c (S.assign .none rfl (.cint rfl)) ?_
    refine RK.c (S.assign .none rfl (.cint rfl)) ?_
    refine RK.nil (Ab.D.code ?_)
    refine OK.ret (Ret.r2 (.tmp rfl rfl (.c (.same rfl) rfl) rfl) (.tmp rfl rfl (.c (.same rfl) rfl) rfl) ?_)
    refine ret_p ?_
    rw [envChk, if_neg (by omega), if_neg c20, if_pos c26]
   ·
    have hpt : 1 ≤ x.parts ∧ x.parts ≤ 20 := by simpa using g13
    have hrc : envChk p x = eachGo (fun _ l => erowErr p l) 0 x.rows := by rw [envChk, if_neg (by omega), if_neg (by omega), if_neg (by omega)]
    refine OK.skip ?_
    refine Ab.D.code (OK.seq (OK.seq (OK.reg ?_)))
    refine RK.c (S.assign .none rfl (.cint rfl)) ?_
    refine RK.nil (Ab.D.code ?_)
    refine OK.block ?_
    refine OK.loop (G := Nat) [2, 3] (fun i => [(2, .ptr 2 0), (1002, .box p.cs), (3, .ptr 3 0), (1003, .box x.cs), (6, .int .i64 i)]) (fun i => i ≤ x.rows.length ∧ eachGo (fun _ l => erowErr p l) 0 x.rows = eachGo (fun _ l => erowErr p l) i (x.rows.drop i)) (fun i => x.rows.length - i) 0 ⟨Nat.zero_le _, rfl⟩ ⟨rfl, rfl, rfl, rfl, rfl, trivial⟩ (fun _ => rfl) ?_
    rintro i ⟨hi, hg⟩
    refine OK.seq (OK.seq (OK.reg ?_))
    refine RK.c (S.move .none rfl (.tmp rfl rfl)) ?_
    refine RK.c (S.bfield fi30_2 .none rfl (.tmp rfl rfl)) ?_
    refine RK.c (S.bload1 ti28 .none rfl (.tmp rfl rfl) rfl rfl rfl rfl) ?_
    refine RK.c (S.lenM si28 .none rfl (.tmp rfl rfl)) ?_
    refine RK.c (S.lss .none rfl (.tmp rfl rfl) (.tmp rfl rfl)) ?_
    refine RK.nil (Ab.D.code ?_)
    refine OK.condD rfl rfl (fun c31 => ?_) (fun c31 => ?_)
    ·
     refine OK.skip ?_
     refine Ab.D.code ?_
     refine OK.seq ?_
     refine OK.block ?_
     refine OK.seq ?_
     refine OK.seq ?_
     refine OK.regionDraw follows (.c (S.bfield fi30_2 .none rfl (.tmp rfl rfl))
      (.c (S.bload1 ti28 .none rfl (.tmp rfl rfl) rfl rfl rfl rfl)
      (.c (S.move .none rfl (.tmp rfl rfl))
      (.c (S.indexM si28 .none rfl (.tmp rfl rfl) (.tmp rfl rfl) rfl (by omega) rfl)
      (.c (S.load1 ti114 .none rfl (.tmp rfl rfl) rfl)
      (.c (S.lenM si114 .none rfl (.tmp rfl rfl))
      (.c (S.bfield fi24_0 .none rfl (.tmp rfl rfl))
      (.c (S.bload1 ti22 .none rfl (.tmp rfl rfl) rfl rfl rfl rfl)
      (.c (S.lenM si22 .none rfl (.tmp rfl rfl))
      (.c (S.neq .none rfl (.tmp rfl rfl) (.tmp rfl rfl))
      .nil)))))))))) (by kernel_rfl) ?_
     refine Ab.D.code ?_
     refine OK.condD rfl rfl (fun c43 => ?_) (fun c43 => ?_)
     ·
      refine OK.seq (OK.reg ?_)
      refine RK.c (S.move .none rfl (.tmp rfl rfl)) ?_
      refine RK.c (S.assign .none rfl (.tmp rfl rfl)) ?_
      refine RK.c (S.assign .none rfl (.cint rfl)) ?_
      refine RK.nil (Ab.D.code ?_)
      refine OK.ret (Ret.r2 (.tmp rfl rfl (.c (.same rfl) rfl) rfl) (.tmp rfl rfl (.c (.same rfl) rfl) rfl) ?_)
      have e : erowErr p x.rows[i] = 10 := by rw [erowErr, if_pos (by omega)]
      exact ret_p (by rw [hrc, rows_hit (erowErr p) (by omega) hg e (by decide)])
     ·
      refine OK.skip ?_
      refine Ab.D.code (OK.seq (OK.reg ?_))
      refine RK.c (S.assign .none rfl (.cint rfl)) ?_
      refine RK.nil (Ab.D.code ?_)
      refine OK.block ?_
      refine OK.loop (G := Nat) [2, 3] (fun j => [(2, .ptr 2 0), (1002, .box p.cs), (3, .ptr 3 0), (1003, .box x.cs), (6, .int .i64 i), (7, .int .i64 j)]) (fun j => j ≤ x.rows[i].length ∧ eachGo (fun _ y => rangeErr y) 0 x.rows[i] = eachGo (fun _ y => rangeErr y) j (x.rows[i].drop j)) (fun j => x.rows[i].length - j) 0 ⟨Nat.zero_le _, rfl⟩ ⟨rfl, rfl, rfl, rfl, rfl, rfl, trivial⟩ (fun _ => rfl) ?_
      rintro j ⟨hj, hv⟩
      refine OK.seq (OK.seq (OK.reg ?_))
      refine RK.c (S.move .none rfl (.tmp rfl rfl)) ?_
      refine RK.c (S.bfield fi30_2 .none rfl (.tmp rfl rfl)) ?_
      refine RK.c (S.bload1 ti28 .none rfl (.tmp rfl rfl) rfl rfl rfl rfl) ?_
      refine RK.c (S.move .none rfl (.tmp rfl rfl)) ?_
      refine RK.c (S.indexM si28 .none rfl (.tmp rfl rfl) (.tmp rfl rfl) rfl (by omega) rfl) ?_
      refine RK.c (S.load1 ti114 .none rfl (.tmp rfl rfl) rfl) ?_
      refine RK.c (S.lenM si114 .none rfl (.tmp rfl rfl)) ?_
      refine RK.c (S.lss .none rfl (.tmp rfl rfl) (.tmp rfl rfl)) ?_
      refine RK.nil (Ab.D.code ?_)
      refine OK.condD rfl rfl (fun c52 => ?_) (fun c52 => ?_)
      ·
       refine OK.skip ?_
       refine Ab.D.code ?_
       refine OK.seq ?_
       refine OK.block ?_
       refine OK.seq (OK.reg ?_)
       refine RK.c (S.bfield fi30_2 .none rfl (.tmp rfl rfl)) ?_
       refine RK.c (S.bload1 ti28 .none rfl (.tmp rfl rfl) rfl rfl rfl rfl) ?_
       refine RK.c (S.move .none rfl (.tmp rfl rfl)) ?_
       refine RK.c (S.indexM si28 .none rfl (.tmp rfl rfl) (.tmp rfl rfl) rfl (by omega) rfl) ?_
       refine RK.c (S.load1 ti114 .none rfl (.tmp rfl rfl) rfl) ?_
       refine RK.c (S.move .none rfl (.tmp rfl rfl)) ?_
       refine RK.c (S.indexM si114 .none rfl (.tmp rfl rfl) (.tmp rfl rfl) rfl (by omega) rfl) ?_
       refine RK.c (S.loadN ti113 .none rfl (.tmp rfl rfl) rfl rfl) ?_
       refine RK.c (S.alloc (k := 8) ze113 rfl .none rfl) ?_
       refine RK.c (S.store ti113 .none (.tmp rfl rfl) (.tmp rfl rfl) rfl rfl rfl rfl rfl rfl) ?_
       refine RK.nil (Ab.D.code (OK.seq (OK.seq (OK.reg ?_))))
       refine RK.c (S.bfield fi113_0 .none rfl (.tmp rfl rfl)) ?_
       refine RK.c (S.bload1 ti3 .none rfl (.tmp rfl rfl) rfl rfl rfl rfl) ?_
       refine RK.c (S.call (ref_isValue) Tryz.call75 .none rfl (.cons (.tmp rfl rfl) .nil) rfl) ?_
       refine RK.c (S.notD .none rfl (.tmp rfl rfl)) ?_
       refine RK.c (S.move .none rfl (.tmp rfl rfl)) ?_
       refine RK.splitD (t := 67) rfl (fun g67 => ?_) (fun g67 => ?_)
       ·
        refine RK.c (S.skip rfl rfl rfl rfl rfl) ?_
        refine RK.c (S.skip rfl rfl rfl rfl rfl) ?_
        refine RK.c (S.skip rfl rfl rfl rfl rfl) ?_
        refine RK.c (S.skip rfl rfl rfl rfl rfl) ?_
        refine RK.c (S.pickT .none rfl (.tmp rfl rfl) .cbool rfl) ?_
        refine RK.nil (Ab.D.code ?_)
        refine OK.condT rfl rfl rfl ?_
        refine OK.seq (OK.reg ?_)
        refine RK.c (S.move .none rfl (.tmp rfl rfl)) ?_
        refine RK.c (S.assign .none rfl (.tmp rfl rfl)) ?_
        refine RK.c (S.assign .none rfl (.cint rfl)) ?_
        refine RK.nil (Ab.D.code ?_)
        refine OK.ret (Ret.r2 (.tmp rfl rfl (.c (.same rfl) rfl) rfl) (.tmp rfl rfl (.c (.same rfl) rfl) rfl) ?_)
        have e : erowErr p x.rows[i] = 2 := by rw [erowErr, if_neg (by omega), rows_hit rangeErr (by omega) hv (show rangeErr x.rows[i][j] = 2 by (rw [rangeErr, if_pos (by omega)])) (by decide)]
        exact ret_p (by rw [hrc, rows_hit (erowErr p) (by omega) hg e (by decide)])
       ·
        refine RK.c (S.bfield fi113_1 (.yes rfl rfl rfl rfl) rfl (.tmp rfl rfl)) ?_
        refine RK.c (S.bload1 ti3 (.yes rfl rfl rfl rfl) rfl (.tmp rfl rfl) rfl rfl rfl rfl) ?_
        refine RK.c (S.call (ref_isValue) Tryz.call75 (.yes rfl rfl rfl rfl) rfl (.cons (.tmp rfl rfl) .nil) rfl) ?_
        refine RK.c (S.notD (.yes rfl rfl rfl rfl) rfl (.tmp rfl rfl)) ?_
        refine RK.c (S.pickF .none rfl (.tmp rfl rfl) (.tmp rfl rfl) rfl) ?_
        refine RK.nil (Ab.D.code ?_)
        refine OK.condD rfl rfl (fun c72 => ?_) (fun c72 => ?_)
        ·
         refine OK.seq (OK.reg ?_)
         refine RK.c (S.move .none rfl (.tmp rfl rfl)) ?_
         refine RK.c (S.assign .none rfl (.tmp rfl rfl)) ?_
         refine RK.c (S.assign .none rfl (.cint rfl)) ?_
         refine RK.nil (Ab.D.code ?_)
         refine OK.ret (Ret.r2 (.tmp rfl rfl (.c (.same rfl) rfl) rfl) (.tmp rfl rfl (.c (.same rfl) rfl) rfl) ?_)
         have e : erowErr p x.rows[i] = 2 := by rw [erowErr, if_neg (by omega), rows_hit rangeErr (by omega) hv (show rangeErr x.rows[i][j] = 2 by (rw [rangeErr, if_pos (fun h => c72 h.2)])) (by decide)]
         exact ret_p (by rw [hrc, rows_hit (erowErr p) (by omega) hg e (by decide)])
        ·
         refine OK.skip ?_
         refine Ab.D.code (OK.seq (OK.reg ?_))
         refine RK.c (S.bfield fi113_0 .none rfl (.tmp rfl rfl)) ?_
         refine RK.c (S.bload1 ti3 .none rfl (.tmp rfl rfl) rfl rfl rfl rfl) ?_
         refine RK.c (S.bfield fi113_1 .none rfl (.tmp rfl rfl)) ?_
         refine RK.c (S.bload1 ti3 .none rfl (.tmp rfl rfl) rfl rfl rfl rfl) ?_
         refine RK.c (S.gtr .none rfl (.tmp rfl rfl) (.tmp rfl rfl)) ?_
         refine RK.nil (Ab.D.code ?_)
         refine OK.condD rfl rfl (fun c78 => ?_) (fun c78 => ?_)
         ·
          refine OK.seq (OK.reg ?_)
          refine RK.c (S.move .none rfl (.tmp rfl rfl)) ?_
          refine RK.c (S.assign .none rfl (.tmp rfl rfl)) ?_
          refine RK.c (S.assign .none rfl (.cint rfl)) ?_
          refine RK.nil (Ab.D.code ?_)
          refine OK.ret (Ret.r2 (.tmp rfl rfl (.c (.same rfl) rfl) rfl) (.tmp rfl rfl (.c (.same rfl) rfl) rfl) ?_)
          have e : erowErr p x.rows[i] = 9 := by rw [erowErr, if_neg (by omega), rows_hit rangeErr (by omega) hv (show rangeErr x.rows[i][j] = 9 by (rw [rangeErr, if_neg (fun h => h ⟨Decidable.not_not.1 g67, Decidable.not_not.1 c72⟩), if_neg (by omega)])) (by decide)]
          exact ret_p (by rw [hrc, rows_hit (erowErr p) (by omega) hg e (by decide)])
         ·
          refine OK.skip ?_
          refine Ab.D.blk ?_
          refine Ab.D.code (OK.reg ?_)
          refine RK.c (S.move .none rfl (.tmp rfl rfl)) ?_
          refine RK.c (S.add .none rfl (.tmp rfl rfl) (.cint rfl) (IntWalk.i64_in _ (by omega)) (IntWalk.i64_in _ (by omega))) ?_
          refine RK.c (S.assign .none rfl (.tmp rfl rfl)) ?_
          refine RK.nil ?_
          refine Ab.D.lp ⟨j + 1, ⟨by omega, ?_⟩, (by omega), rfl, rfl, rfl, rfl, rfl, rfl, trivial⟩
          have h1 : -1000000 ≤ x.rows[i][j].lo ∧ x.rows[i][j].lo ≤ 1000000 := by simpa using g67
          have h2 : -1000000 ≤ x.rows[i][j].hi ∧ x.rows[i][j].hi ≤ 1000000 := by simpa using c72
          exact rows_drop rangeErr (by omega) hv (by rw [rangeErr, if_neg (by omega), if_pos (by omega)])
      ·
       refine OK.exit rfl ?_
       refine Ab.D.blk ?_
       refine Ab.D.code (OK.reg ?_)
       refine RK.c (S.move .none rfl (.tmp rfl rfl)) ?_
       refine RK.c (S.add .none rfl (.tmp rfl rfl) (.cint rfl) (IntWalk.i64_in _ (by omega)) (IntWalk.i64_in _ (by omega))) ?_
       refine RK.c (S.assign .none rfl (.tmp rfl rfl)) ?_
       refine RK.nil ?_
       refine Ab.D.lp ⟨i + 1, ⟨by omega, ?_⟩, (by omega), rfl, rfl, rfl, rfl, rfl, trivial⟩
       have e : erowErr p x.rows[i] = 0 := by rw [erowErr, if_neg (by omega), hv, show j = x.rows[i].length by omega, List.drop_length]; rfl
       exact rows_drop (erowErr p) (by omega) hg e
    ·
     refine OK.exit rfl ?_
     refine Ab.D.code (OK.seq (OK.reg ?_))
     refine RK.c (S.assign .none rfl (.cint rfl)) ?_
     refine RK.c (S.assign .none rfl (.cint rfl)) ?_
     refine RK.nil (Ab.D.code ?_)
     refine OK.ret (Ret.r2 (.tmp rfl rfl (.c (.same rfl) rfl) rfl) (.tmp rfl rfl (.c (.same rfl) rfl) rfl) ?_)
     exact ret_p (by rw [hrc, hg, show i = x.rows.length by omega, List.drop_length]; rfl)
theorem base_CopyRanges {l : List Range} (hlen : l.length ≤ 100000) : Ct Tryz.prog 57 [.sl (l.map Range.cs)] (.sl (l.map Range.cs)) := by
 refine Ct.intro (rs := [.tmp 2]) Tryz.func57 rfl Tryz.ntmps57 Tryz.results57 rfl rfl rfl fun w h => ?_
 refine OK.seq (OK.reg ?_)
 refine RK.c (S.assign .none rfl .cnil) ?_
 refine RK.nil (Ab.D.code (OK.seq (OK.reg ?_)))
 refine RK.c (S.mkSlice (k := 3) (rows := []) ai114 .none rfl .nil rfl rfl rfl rfl rfl rfl rfl) ?_
 refine RK.c (S.move .none rfl (.tmp rfl rfl)) ?_
 refine RK.c (S.appendSl ai114 .none rfl (.tmp rfl rfl) rfl (by first | rfl | (simp; done) | (simp; omega)) (.tmp rfl rfl) (by intro q hq; obtain ⟨b, _, rfl⟩ := List.mem_map.1 hq; rfl) rfl (by simp only [List.length_map]; omega) (by simp only [maxLen, List.length_map]; omega)) ?_
 refine RK.c (S.assign .none rfl (.tmp rfl rfl)) ?_
 refine RK.nil (Ab.D.code ?_)
 refine OK.ret (Ret.r1 (.tmp rfl rfl (.c (.own rfl rfl (by first | rfl | (simp; done) | (simp; omega))) rfl) rfl) ?_)
 rfl
theorem ref_CopyEnvelope {x : Envelope} (hlen : x.rows.length ≤ 100000) (hvl : ∀ (i : Nat) (h : i < x.rows.length), x.rows[i].length ≤ 100000) : Ct Tryz.prog 14 [.agg x.cs] (.agg x.cs) := by
 refine Ct.intro (rs := [.cell 2 30]) Tryz.func14 rfl Tryz.ntmps14 Tryz.results14 rfl rfl rfl fun w h => ?_
 refine OK.seq (OK.reg ?_)
 refine RK.c (S.box (k := 1) rfl .none rfl (.tmp rfl rfl) rfl) ?_
 refine RK.c (S.alloc (k := 2) ze30 rfl .none rfl) ?_
 refine RK.nil (Ab.D.code (OK.seq (OK.reg ?_)))
 refine RK.c (S.bfield fi30_0 .none rfl (.tmp rfl rfl)) ?_
 refine RK.c (S.bload1 ti3 .none rfl (.tmp rfl rfl) rfl rfl rfl rfl) ?_
 refine RK.c (S.bfield fi30_1 .none rfl (.tmp rfl rfl)) ?_
 refine RK.c (S.bload1 ti3 .none rfl (.tmp rfl rfl) rfl rfl rfl rfl) ?_
 refine RK.c (S.build bu30 rfl .none rfl (.cons (.tmp rfl rfl) (.cons (.tmp rfl rfl) .nil)) rfl rfl) ?_
 refine RK.c (S.alloc (k := 3) ze30 rfl .none rfl) ?_
 refine RK.c (S.store ti30 .none (.tmp rfl rfl) (.tmp rfl rfl) rfl rfl rfl rfl rfl rfl) ?_
 refine RK.nil (Ab.D.code (OK.seq (OK.seq (OK.reg ?_))))
 refine RK.c (S.assign .none rfl (.cint rfl)) ?_
 refine RK.nil (Ab.D.code ?_)
 refine OK.block ?_
 refine OK.boxOwn 3 2 890 1 rfl rfl rfl rfl rfl ?_
 refine OK.loop (G := Nat) [1, 2, 3, 890] (fun i => [(1, .ptr 1 0), (1001, .box x.cs), (2, .ptr 2 0), (1002, .box [.int .i64 0, .int .i64 0, .nils]), (3, .ptr 3 0), (1003, .box [.int .i64 x.parts, .int .i64 x.trim, .own 890 i]), (2890, .arr 1 ((x.rows.take i).map (fun l => [X.sl (l.map Range.cs)]))), (4, .int .i64 i)]) (fun i => i ≤ x.rows.length) (fun i => x.rows.length - i) 0 (Nat.zero_le _) ⟨rfl, rfl, rfl, rfl, rfl, rfl, (lk_arr (by first | rfl | (simp; done) | (simp; omega))), rfl, trivial⟩ (fun _ => rfl) ?_
 rintro i hi
 refine OK.seq (OK.seq (OK.reg ?_))
 refine RK.c (S.move .none rfl (.tmp rfl rfl)) ?_
 refine RK.c (S.bfield fi30_2 .none rfl (.tmp rfl rfl)) ?_
 refine RK.c (S.bload1 ti28 .none rfl (.tmp rfl rfl) rfl rfl rfl rfl) ?_
 refine RK.c (S.lenM si28 .none rfl (.tmp rfl rfl)) ?_
 refine RK.c (S.lss .none rfl (.tmp rfl rfl) (.tmp rfl rfl)) ?_
 refine RK.nil (Ab.D.code ?_)
 refine OK.condD rfl rfl (fun c14 => ?_) (fun c14 => ?_)
 ·
  have hvli := hvl i (by omega)
  refine OK.skip ?_
  refine Ab.D.code ?_
  refine OK.seq ?_
  refine OK.block ?_
  refine OK.regionDraw follows (.c (S.bfield fi30_2 .none rfl (.tmp rfl rfl))
   (.c (S.bload1 ti28 .none rfl (.tmp rfl rfl) rfl rfl rfl rfl)
   (.c (S.bfield fi30_2 .none rfl (.tmp rfl rfl))
   (.c (S.bload1 ti28 .none rfl (.tmp rfl rfl) rfl rfl rfl rfl)
   (.c (S.move .none rfl (.tmp rfl rfl))
   (.c (S.indexM si28 .none rfl (.tmp rfl rfl) (.tmp rfl rfl) rfl (by omega) rfl)
   (.c (S.load1 ti114 .none rfl (.tmp rfl rfl) rfl)
   (.c (S.call (base_CopyRanges (l := x.rows[i]) hvli) Tryz.call57 .none rfl (.cons (.tmp rfl rfl) .nil) rfl)
   (.c (S.mkSlice (k := 25) (rows := [[_]]) ai28 .none rfl (.cons (.tmp rfl rfl) .nil) rfl rfl rfl rfl rfl rfl rfl)
   (.c (S.append ai28 .none rfl (.tmp rfl rfl) rfl (by first | (simp; done) | (simp; omega)) (.tmp rfl rfl) rfl (by first | rfl | (simp; done) | (simp; omega)) (by omega) (by simp only [maxLen]; omega))
   (.c (S.bfield fi30_2 .none rfl (.tmp rfl rfl))
   (.c (S.store ti28 .none (.tmp rfl rfl) (.tmp rfl rfl) rfl rfl rfl rfl rfl rfl)
   .nil)))))))))))) (by kernel_rfl) ?_
  refine Ab.D.blk ?_
  refine Ab.D.code (OK.reg ?_)
  refine RK.c (S.move .none rfl (.tmp rfl rfl)) ?_
  refine RK.c (S.add .none rfl (.tmp rfl rfl) (.cint rfl) (IntWalk.i64_in _ (by omega)) (IntWalk.i64_in _ (by omega))) ?_
  refine RK.c (S.assign .none rfl (.tmp rfl rfl)) ?_
  refine RK.nil ?_
  refine Ab.D.lp ⟨i + 1, (by omega), (by omega), rfl, rfl, rfl, rfl, rfl, rfl, (lk_arr (by rw [← take_snoc (by omega)]; simp only [List.map_append, List.map_cons, List.map_nil])), rfl, trivial⟩
 ·
  refine OK.exit rfl ?_
  refine Ab.D.code (OK.seq (OK.reg ?_))
  refine RK.c (S.bloadN ti30 .none rfl (.tmp rfl rfl) rfl rfl rfl rfl) ?_
  refine RK.c (S.store ti30 .none (.tmp rfl rfl) (.tmp rfl rfl) rfl rfl rfl rfl rfl rfl) ?_
  refine RK.nil (Ab.D.code ?_)
  refine OK.ret (Ret.r1 (.cellN rfl rfl rfl rfl ti30 rfl (.k (.same rfl) (.k (.same rfl) (.k (.own rfl rfl (by first | rfl | (simp; done) | (simp; omega))) .z)))) ?_)
  rw [show i = x.rows.length by omega, List.take_length]
  rfl
theorem law_shortEnvelope {x : Envelope} : Ct Tryz.prog 8 [.agg x.cs] (.bool (shortEnvT x)) := by
 refine Ct.intro (rs := [.tmp 2]) Tryz.func8 rfl Tryz.ntmps8 Tryz.results8 rfl rfl rfl fun w h => ?_
 refine OK.seq (OK.reg ?_)
 refine RK.c (S.box (k := 1) rfl .none rfl (.tmp rfl rfl) rfl) ?_
 refine RK.c (S.assign .none rfl .cbool) ?_
 refine RK.nil (Ab.D.code (OK.seq (OK.seq (OK.reg ?_))))
 refine RK.c (S.bfield fi30_2 .none rfl (.tmp rfl rfl)) ?_
 refine RK.c (S.bload1 ti28 .none rfl (.tmp rfl rfl) rfl rfl rfl rfl) ?_
 refine RK.c (S.lenM si28 .none rfl (.tmp rfl rfl)) ?_
 refine RK.c (S.gtr .none rfl (.tmp rfl rfl) (.cint rfl)) ?_
 refine RK.nil (Ab.D.code ?_)
 refine OK.condD rfl rfl (fun c7 => ?_) (fun c7 => ?_)
 ·
  refine OK.seq (OK.reg ?_)
  refine RK.c (S.assign .none rfl .cbool) ?_
  refine RK.nil (Ab.D.code ?_)
  refine OK.ret (Ret.r1 (.tmp rfl rfl (.c (.same rfl) rfl) rfl) ?_)
  refine ret_b ?_
  rw [shortEnvT, decide_eq_false (by omega), Bool.false_and]
 ·
  refine OK.skip ?_
  refine Ab.D.code (OK.seq (OK.seq (OK.reg ?_)))
  refine RK.c (S.assign .none rfl (.cint rfl)) ?_
  refine RK.nil (Ab.D.code ?_)
  refine OK.block ?_
  refine OK.loop (G := Nat) [1] (fun i => [(1, .ptr 1 0), (1001, .box x.cs), (3, .int .i64 i)]) (fun i => i ≤ x.rows.length ∧ (x.rows.all fun l => decide (l.length ≤ 6)) = (x.rows.drop i).all fun l => decide (l.length ≤ 6)) (fun i => x.rows.length - i) 0 ⟨Nat.zero_le _, rfl⟩ ⟨rfl, rfl, rfl, trivial⟩ (fun _ => rfl) ?_
  rintro i ⟨hi, hg⟩
  refine OK.seq (OK.seq (OK.reg ?_))
  refine RK.c (S.move .none rfl (.tmp rfl rfl)) ?_
  refine RK.c (S.bfield fi30_2 .none rfl (.tmp rfl rfl)) ?_
  refine RK.c (S.bload1 ti28 .none rfl (.tmp rfl rfl) rfl rfl rfl rfl) ?_
  refine RK.c (S.lenM si28 .none rfl (.tmp rfl rfl)) ?_
  refine RK.c (S.lss .none rfl (.tmp rfl rfl) (.tmp rfl rfl)) ?_
  refine RK.nil (Ab.D.code ?_)
  refine OK.condD rfl rfl (fun c12 => ?_) (fun c12 => ?_)
  ·
   refine OK.skip ?_
   refine Ab.D.code ?_
   refine OK.seq ?_
   refine OK.block ?_
   refine OK.seq (OK.reg ?_)
   refine RK.c (S.bfield fi30_2 .none rfl (.tmp rfl rfl)) ?_
   refine RK.c (S.bload1 ti28 .none rfl (.tmp rfl rfl) rfl rfl rfl rfl) ?_
   refine RK.c (S.move .none rfl (.tmp rfl rfl)) ?_
   refine RK.c (S.indexM si28 .none rfl (.tmp rfl rfl) (.tmp rfl rfl) rfl (by omega) rfl) ?_
   refine RK.c (S.load1 ti114 .none rfl (.tmp rfl rfl) rfl) ?_
   refine RK.c (S.lenM si114 .none rfl (.tmp rfl rfl)) ?_
   refine RK.c (S.gtr .none rfl (.tmp rfl rfl) (.cint rfl)) ?_
   refine RK.nil (Ab.D.code ?_)
   refine OK.condD rfl rfl (fun c21 => ?_) (fun c21 => ?_)
   ·
    refine OK.seq (OK.reg ?_)
    refine RK.c (S.assign .none rfl .cbool) ?_
    refine RK.nil (Ab.D.code ?_)
    refine OK.ret (Ret.r1 (.tmp rfl rfl (.c (.same rfl) rfl) rfl) ?_)
    refine ret_b ?_
    rw [shortEnvT, hg, all_drop _ (by omega), decide_eq_false (p := x.rows[i].length ≤ 6) (by omega), Bool.false_and, Bool.and_false]
   ·
    refine OK.skip ?_
    refine Ab.D.blk ?_
    refine Ab.D.code (OK.reg ?_)
    refine RK.c (S.move .none rfl (.tmp rfl rfl)) ?_
    refine RK.c (S.add .none rfl (.tmp rfl rfl) (.cint rfl) (IntWalk.i64_in _ (by omega)) (IntWalk.i64_in _ (by omega))) ?_
    refine RK.c (S.assign .none rfl (.tmp rfl rfl)) ?_
    refine RK.nil ?_
    refine Ab.D.lp ⟨i + 1, ⟨by omega, ?_⟩, (by omega), rfl, rfl, rfl, trivial⟩
    rw [hg, all_drop _ (by omega), decide_eq_true (p := x.rows[i].length ≤ 6) (by omega), Bool.true_and]
  ·
   refine OK.exit rfl ?_
   refine Ab.D.code (OK.seq (OK.reg ?_))
   refine RK.c (S.assign .none rfl .cbool) ?_
   refine RK.nil (Ab.D.code ?_)
   refine OK.ret (Ret.r1 (.tmp rfl rfl (.c (.same rfl) rfl) rfl) ?_)
   refine ret_b ?_
   rw [shortEnvT, hg, show i = x.rows.length by omega, List.drop_length, decide_eq_true (by omega)]
   rfl
end Go.Proofs.YtpmglnphhhlbdaaGreatDoor
