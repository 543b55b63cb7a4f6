/-
  No cell of these rows narrows 'for every input' (looked for: loops, veiled, ifaces, maps, wideKeys, modest, calm, conditions, laid).
  DERIVED. THE GIVEN ROWS OF THIS SEAT. 6 by the template 'for every input the law returns true; each argument reads behind the call as it read before'; 0 by the template 'total and deterministic' (their statements: YtfjldfkgjejpmaaGreatTotals.lean).
  GIVEN WITH THE SEED: the statements are not yours to turn. If you find one false, say at which input.
  Laid BY PROGRAM, IN A SANDBOX (cutbox-rows.mjs): the forced cells as the released guide's own fill.sh prints them over the translation b47ab56d2aa45d86… (all of the seat's roots in one cut). By AI agents, Wed Nov 11 2026. No macro, syntax, notation, axiom, sorry.
-/
import Derived.Test.YtfjldfkgjejpmaaGreatChecked
import GoSem.Claim
import GoSem.ClaimJoined
import GoSem.ClaimMapViews
import Derived.JoinedTies
import Derived.KernelRfl
namespace Go.Proofs.YtfjldfkgjejpmaaGreat
/- THE CELL 'sum', in the pinned program and in every row, IS THE sha256 OF THE DUMP (.gsa) THAT YtfjldfkgjejpmaaGreatProg.lean LOADS. Nothing in Lean hashes anything: it is a label: what it is worth is what the hold of that sum in a sandbox is worth. -/
noncomputable def Tryz.pinned : Pinned := { name := "ytfjldfkgjejpmaagreat", sum := "b47ab56d2aa45d8674050bbc5b432b0cbe27f1f7292d88f6dfa68b068a733624", checked := Tryz.checked }
namespace Rows
def none {H : Type} : Left H := { results := [], args := [] }

/-- 'martensitelaw07.MonitorEnvelopes': WHATEVER THE INPUT: true; the input reads as it did. -/
def monitorEnvelopesSpec : ChangeSpec := { name := "monitorEnvelopes", fn := fun _ => fun
  | [d1, d2] => { results := [.lit (.bool true)], args := [d1, d2] }
  | _ => none }
def monitorEnvelopesRow : OpenClaim := { program := "ytfjldfkgjejpmaagreat", sum := "b47ab56d2aa45d8674050bbc5b432b0cbe27f1f7292d88f6dfa68b068a733624", func := "martensite/martensitelaw07.MonitorEnvelopes", spec := "monitorEnvelopes", unfollowed := true, recurses := true, apart := false }
def MonitorEnvelopesSaid : Prop := monitorEnvelopesRow.holds Tryz.pinned (OpenSpec.ofChange monitorEnvelopesSpec)

/-- ITS FALSE NEIGHBOUR: 'it returns false'. Refute it at one input. -/
def monitorEnvelopesWrong : ChangeSpec := { name := "monitorEnvelopes", fn := fun _ => fun
  | [d1, d2] => { results := [.lit (.bool false)], args := [d1, d2] }
  | _ => none }
def MonitorEnvelopesWrongFalsely : Prop := monitorEnvelopesRow.holds Tryz.pinned (OpenSpec.ofChange monitorEnvelopesWrong)

/-- 'martensitelaw07.MonitorLearned': WHATEVER THE INPUT: true; the input reads as it did. -/
def monitorLearnedSpec : ChangeSpec := { name := "monitorLearned", fn := fun _ => fun
  | [d1, d2] => { results := [.lit (.bool true)], args := [d1, d2] }
  | _ => none }
def monitorLearnedRow : OpenClaim := { program := "ytfjldfkgjejpmaagreat", sum := "b47ab56d2aa45d8674050bbc5b432b0cbe27f1f7292d88f6dfa68b068a733624", func := "martensite/martensitelaw07.MonitorLearned", spec := "monitorLearned", unfollowed := true, recurses := true, apart := false }
def MonitorLearnedSaid : Prop := monitorLearnedRow.holds Tryz.pinned (OpenSpec.ofChange monitorLearnedSpec)

/-- ITS FALSE NEIGHBOUR: 'it returns false'. Refute it at one input. -/
def monitorLearnedWrong : ChangeSpec := { name := "monitorLearned", fn := fun _ => fun
  | [d1, d2] => { results := [.lit (.bool false)], args := [d1, d2] }
  | _ => none }
def MonitorLearnedWrongFalsely : Prop := monitorLearnedRow.holds Tryz.pinned (OpenSpec.ofChange monitorLearnedWrong)

/-- 'martensitelaw07.MonitorVerdicts': WHATEVER THE INPUT: true; the input reads as it did. -/
def monitorVerdictsSpec : ChangeSpec := { name := "monitorVerdicts", fn := fun _ => fun
  | [d1, d2, d3] => { results := [.lit (.bool true)], args := [d1, d2, d3] }
  | _ => none }
def monitorVerdictsRow : OpenClaim := { program := "ytfjldfkgjejpmaagreat", sum := "b47ab56d2aa45d8674050bbc5b432b0cbe27f1f7292d88f6dfa68b068a733624", func := "martensite/martensitelaw07.MonitorVerdicts", spec := "monitorVerdicts", unfollowed := true, recurses := true, apart := false }
def MonitorVerdictsSaid : Prop := monitorVerdictsRow.holds Tryz.pinned (OpenSpec.ofChange monitorVerdictsSpec)

/-- ITS FALSE NEIGHBOUR: 'it returns false'. Refute it at one input. -/
def monitorVerdictsWrong : ChangeSpec := { name := "monitorVerdicts", fn := fun _ => fun
  | [d1, d2, d3] => { results := [.lit (.bool false)], args := [d1, d2, d3] }
  | _ => none }
def MonitorVerdictsWrongFalsely : Prop := monitorVerdictsRow.holds Tryz.pinned (OpenSpec.ofChange monitorVerdictsWrong)

/-- 'martensitelaw07.MonitorAlarms': WHATEVER THE INPUT: true; the input reads as it did. -/
def monitorAlarmsSpec : ChangeSpec := { name := "monitorAlarms", fn := fun _ => fun
  | [d1, d2, d3] => { results := [.lit (.bool true)], args := [d1, d2, d3] }
  | _ => none }
def monitorAlarmsRow : OpenClaim := { program := "ytfjldfkgjejpmaagreat", sum := "b47ab56d2aa45d8674050bbc5b432b0cbe27f1f7292d88f6dfa68b068a733624", func := "martensite/martensitelaw07.MonitorAlarms", spec := "monitorAlarms", unfollowed := true, recurses := true, apart := false }
def MonitorAlarmsSaid : Prop := monitorAlarmsRow.holds Tryz.pinned (OpenSpec.ofChange monitorAlarmsSpec)

/-- ITS FALSE NEIGHBOUR: 'it returns false'. Refute it at one input. -/
def monitorAlarmsWrong : ChangeSpec := { name := "monitorAlarms", fn := fun _ => fun
  | [d1, d2, d3] => { results := [.lit (.bool false)], args := [d1, d2, d3] }
  | _ => none }
def MonitorAlarmsWrongFalsely : Prop := monitorAlarmsRow.holds Tryz.pinned (OpenSpec.ofChange monitorAlarmsWrong)

/-- 'martensitelaw07.MonitorFrames': WHATEVER THE INPUT: true; the input reads as it did. -/
def monitorFramesSpec : ChangeSpec := { name := "monitorFrames", fn := fun _ => fun
  | [d1, d2] => { results := [.lit (.bool true)], args := [d1, d2] }
  | _ => none }
def monitorFramesRow : OpenClaim := { program := "ytfjldfkgjejpmaagreat", sum := "b47ab56d2aa45d8674050bbc5b432b0cbe27f1f7292d88f6dfa68b068a733624", func := "martensite/martensitelaw07.MonitorFrames", spec := "monitorFrames", unfollowed := true, recurses := true, apart := false }
def MonitorFramesSaid : Prop := monitorFramesRow.holds Tryz.pinned (OpenSpec.ofChange monitorFramesSpec)

/-- ITS FALSE NEIGHBOUR: 'it returns false'. Refute it at one input. -/
def monitorFramesWrong : ChangeSpec := { name := "monitorFrames", fn := fun _ => fun
  | [d1, d2] => { results := [.lit (.bool false)], args := [d1, d2] }
  | _ => none }
def MonitorFramesWrongFalsely : Prop := monitorFramesRow.holds Tryz.pinned (OpenSpec.ofChange monitorFramesWrong)

/-- 'martensitelaw07.MonitorFalseAlarms': WHATEVER THE INPUT: true; the input reads as it did. -/
def monitorFalseAlarmsSpec : ChangeSpec := { name := "monitorFalseAlarms", fn := fun _ => fun
  | [d1, d2] => { results := [.lit (.bool true)], args := [d1, d2] }
  | _ => none }
def monitorFalseAlarmsRow : OpenClaim := { program := "ytfjldfkgjejpmaagreat", sum := "b47ab56d2aa45d8674050bbc5b432b0cbe27f1f7292d88f6dfa68b068a733624", func := "martensite/martensitelaw07.MonitorFalseAlarms", spec := "monitorFalseAlarms", unfollowed := true, recurses := true, apart := false }
def MonitorFalseAlarmsSaid : Prop := monitorFalseAlarmsRow.holds Tryz.pinned (OpenSpec.ofChange monitorFalseAlarmsSpec)

/-- ITS FALSE NEIGHBOUR: 'it returns false'. Refute it at one input. -/
def monitorFalseAlarmsWrong : ChangeSpec := { name := "monitorFalseAlarms", fn := fun _ => fun
  | [d1, d2] => { results := [.lit (.bool false)], args := [d1, d2] }
  | _ => none }
def MonitorFalseAlarmsWrongFalsely : Prop := monitorFalseAlarmsRow.holds Tryz.pinned (OpenSpec.ofChange monitorFalseAlarmsWrong)

/- THE SECOND FORM. 'bulk': how many values and letters a reading holds, each counted each time it is reached (what is shared counts as often as it is met; a slice's spare places count too). A statement '..UptoSaid' is the law's where the arguments, and the package variables that the reading takes, are together of bulk at most 1048576: NARROWER than '..Said'. Prove '..Said' where nothing that the law and all that it calls make is longer than what came in: it says more and counts as full. Else prove '..UptoSaid'. A law counts once. -/
mutual
def uptoBulk {H : Type} : DataW H → Nat
  | .lit (.string bytes) => bytes.length + 1
  | .lit _ => 1
  | .nil => 1
  | .ptr d => uptoBulk d + 1
  | .slice elems spare => uptoBulkAll elems + uptoBulkAll spare + 1
  | .agg parts => uptoBulkAll parts + 1
  | .iface _ d => uptoBulk d + 1
  | .map entries => uptoBulkEntries entries + 1
  | .held _ => 1
def uptoBulkAll {H : Type} : List (DataW H) → Nat
  | [] => 0
  | d :: r => uptoBulk d + uptoBulkAll r
def uptoBulkEntries {H : Type} : List (Lit × DataW H) → Nat
  | [] => 0
  | x :: r => uptoBulkEntry x + uptoBulkEntries r
def uptoBulkEntry {H : Type} : Lit × DataW H → Nat
  | (.string bytes, d) => bytes.length + uptoBulk d + 1
  | (_, d) => uptoBulk d + 1
 end
def uptoSmall : (H : Type) → List (DataW H) → Bool := fun _ ds => decide (uptoBulkAll ds ≤ 1048576)
def OpenSpec.upto (s : _root_.Go.ChangeSpec) : _root_.Go.OpenSpec := { _root_.Go.OpenSpec.ofChange s with cond := some uptoSmall }

/-- 'martensitelaw07.MonitorEnvelopes', WHERE WHAT IT READS IS OF BULK AT MOST 1048576: true; the input reads as it did. -/
def monitorEnvelopesUptoRow : OpenClaim := { program := "ytfjldfkgjejpmaagreat", sum := "b47ab56d2aa45d8674050bbc5b432b0cbe27f1f7292d88f6dfa68b068a733624", func := "martensite/martensitelaw07.MonitorEnvelopes", spec := "monitorEnvelopes", unfollowed := true, recurses := true, apart := false, narrowed := true }
def MonitorEnvelopesUptoSaid : Prop := monitorEnvelopesUptoRow.holds Tryz.pinned (OpenSpec.upto monitorEnvelopesSpec)

/-- 'martensitelaw07.MonitorLearned', WHERE WHAT IT READS IS OF BULK AT MOST 1048576: true; the input reads as it did. -/
def monitorLearnedUptoRow : OpenClaim := { program := "ytfjldfkgjejpmaagreat", sum := "b47ab56d2aa45d8674050bbc5b432b0cbe27f1f7292d88f6dfa68b068a733624", func := "martensite/martensitelaw07.MonitorLearned", spec := "monitorLearned", unfollowed := true, recurses := true, apart := false, narrowed := true }
def MonitorLearnedUptoSaid : Prop := monitorLearnedUptoRow.holds Tryz.pinned (OpenSpec.upto monitorLearnedSpec)

/-- 'martensitelaw07.MonitorVerdicts', WHERE WHAT IT READS IS OF BULK AT MOST 1048576: true; the input reads as it did. -/
def monitorVerdictsUptoRow : OpenClaim := { program := "ytfjldfkgjejpmaagreat", sum := "b47ab56d2aa45d8674050bbc5b432b0cbe27f1f7292d88f6dfa68b068a733624", func := "martensite/martensitelaw07.MonitorVerdicts", spec := "monitorVerdicts", unfollowed := true, recurses := true, apart := false, narrowed := true }
def MonitorVerdictsUptoSaid : Prop := monitorVerdictsUptoRow.holds Tryz.pinned (OpenSpec.upto monitorVerdictsSpec)

/-- 'martensitelaw07.MonitorAlarms', WHERE WHAT IT READS IS OF BULK AT MOST 1048576: true; the input reads as it did. -/
def monitorAlarmsUptoRow : OpenClaim := { program := "ytfjldfkgjejpmaagreat", sum := "b47ab56d2aa45d8674050bbc5b432b0cbe27f1f7292d88f6dfa68b068a733624", func := "martensite/martensitelaw07.MonitorAlarms", spec := "monitorAlarms", unfollowed := true, recurses := true, apart := false, narrowed := true }
def MonitorAlarmsUptoSaid : Prop := monitorAlarmsUptoRow.holds Tryz.pinned (OpenSpec.upto monitorAlarmsSpec)

/-- 'martensitelaw07.MonitorFrames', WHERE WHAT IT READS IS OF BULK AT MOST 1048576: true; the input reads as it did. -/
def monitorFramesUptoRow : OpenClaim := { program := "ytfjldfkgjejpmaagreat", sum := "b47ab56d2aa45d8674050bbc5b432b0cbe27f1f7292d88f6dfa68b068a733624", func := "martensite/martensitelaw07.MonitorFrames", spec := "monitorFrames", unfollowed := true, recurses := true, apart := false, narrowed := true }
def MonitorFramesUptoSaid : Prop := monitorFramesUptoRow.holds Tryz.pinned (OpenSpec.upto monitorFramesSpec)

/-- 'martensitelaw07.MonitorFalseAlarms', WHERE WHAT IT READS IS OF BULK AT MOST 1048576: true; the input reads as it did. -/
def monitorFalseAlarmsUptoRow : OpenClaim := { program := "ytfjldfkgjejpmaagreat", sum := "b47ab56d2aa45d8674050bbc5b432b0cbe27f1f7292d88f6dfa68b068a733624", func := "martensite/martensitelaw07.MonitorFalseAlarms", spec := "monitorFalseAlarms", unfollowed := true, recurses := true, apart := false, narrowed := true }
def MonitorFalseAlarmsUptoSaid : Prop := monitorFalseAlarmsUptoRow.holds Tryz.pinned (OpenSpec.upto monitorFalseAlarmsSpec)

end Rows
end Go.Proofs.YtfjldfkgjejpmaaGreat
