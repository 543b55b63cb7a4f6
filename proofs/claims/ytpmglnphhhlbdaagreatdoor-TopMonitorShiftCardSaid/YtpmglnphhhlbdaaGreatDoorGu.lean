import Derived.Lib.LaidTab
import Derived.Stop.LaidErr
import Derived.Test.YtpmglnphhhlbdaaGreatDoorFs
import Derived.Test.YtpmglnphhhlbdaaGreatDoorGs
namespace Go.Ab
open Go.RowKit Go.ChangeShapes Go.WideShapes Go.ChangeAt
theorem var_cells {P : Program} {w : World} {n : String} {g : Nat} {cs : Array Value} (hg : P.globalNamed n = some g) (h : w.var? P n = some cs) : ∃ T d, w.heap[g]? = some (.cells cs T d) := by
  unfold World.var? at h
  rw [hg] at h
  simp only [Option.bind_some] at h
  split at h
  · rename_i T d e
    cases h
    exact ⟨T, d, e⟩
  · cases h
theorem Tabs.of_laid {P : Program} {W : World} (hp : Lib.TabIs P W "internal/strconv.uint64pow10" .u64 Lib.pow10Tab) (he : ∃ t p, W.var? P "strconv.ErrRange" = some #[.iface t p]) (hs : ∃ t p, W.var? P "strconv.ErrSyntax" = some #[.iface t p]) : Tabs P W := by
  have hv : ∀ n, (n = "strconv.ErrRange" ∨ n = "strconv.ErrSyntax") → ∃ t p, W.var? P n = some #[.iface t p] := by
    rintro n (rfl | rfl)
    · exact he
    · exact hs
  refine ⟨fun g hg => var_cells hg hp, fun n hn g hg => ?_, fun n hn g hg => ?_⟩
  · obtain ⟨t, p, h⟩ := hv n hn
    have h0 := World.var?_cell hg h 0
    exact ⟨.iface t p, by simpa using h0, .inr ⟨t, p, rfl⟩⟩
  · have lt : ∀ {cs : Array Value}, W.var? P n = some cs → g < W.heap.size := by
      intro cs h
      obtain ⟨T, d, e⟩ := var_cells hg h
      exact (Array.getElem?_eq_some_iff.1 e).1
    rcases hn with rfl | hn
    · exact lt hp
    · obtain ⟨t, p, h⟩ := hv n hn
      exact lt h
section
variable {H : Type} {enc : TypeId × Value → H} {P : Program} {w : World} {spare : Nat → Bool}
theorem law_callsT {f : Nat} {fn : Func} {s : ChangeSpec} {Ts : List Ty} {tb : TypeId} {args : Array Value} {ds gs : List (DataW H)} {before : List MemPlace} {base : Nat} {apart fresh handsOn : Bool} (hlaw : ∀ xs, ArgsIs Ts xs → CtT P f xs (.bool true)) (hT : Tabs P w)
    (hl : laidOutB P = true) (hTs : TysAre P Ts fn.params.toList) (hvars : s.vars = []) (hres : fn.resultTypes = #[tb]) (htb : P.underlying tb = some .bool) (hs : ∀ ds : List (DataW H), ds.length = fn.params.toList.length → s.fn H ds = { results := [.lit (.bool true)], args := ds })
    (hok : ∀ (j : Nat) t v, fn.params[j]? = some t → args[j]? = some v → Value.okWide P w .any base t v) (hW : DataW.Whole enc P fn.params.toList s.vars apart w args.toList ds gs before) :
    Calls P f args w fun e w' => ∃ v, e = .returned v ∧ s.post enc P fn apart fresh handsOn false w args v w' := by
  have hW' := hW
  obtain ⟨p, q, hA, hV, hb, hfz, hnd⟩ := hW
  rw [hvars] at hV
  obtain ⟨hg, hq⟩ := trodVars_none hV
  subst hg
  subst hq
  rw [List.append_nil] at hb
  subst hb
  obtain ⟨xs, h1, h2⟩ := args_rep hTs (fun j t v ht hv => hok j t v (by simpa using ht) (by simpa using hv)) hA
  have hc := hlaw xs h2 (lendM w) w args.toList hT (fun _ _ h => h) h1
  have ha : args.toList.toArray = args := by simp
  rw [ha] at hc
  refine hc.mono ?_
  rintro e w' ⟨v, h', rfl, hB, _, _, _, hr⟩
  have hv : v = .bool true := bool_of hr
  subst hv
  have hlen := trodAll_len hA
  refine ⟨_, rfl, ds, [], before, [], before, [], hW', ?_, ?_, ?_, ?_, (fun h => by cases h)⟩
  · rw [List.append_nil, hs ds hlen, hres]
    exact ⟨[], [], shut_bool htb true, rfl, rfl⟩
  · rw [List.append_nil, hs ds hlen]
    exact args_stay hl hB hTs (fun x hx => hW'.lt x hx) hA
  · rw [List.append_nil, hs ds hlen, hvars]
    exact rfl
  · exact World.keptBut_mono (fun p hp => ⟨hp, .inr (.inl hp)⟩) (hB.frame (· ∈ before))
end
end Go.Ab
