/-
  No cell of these rows narrows 'for every input' (looked for: loops, veiled, ifaces, maps, wideKeys, modest, calm, conditions, laid).
  DERIVED. THE GIVEN ROWS OF THIS SEAT. 6 by the template 'for every input the law returns true; each argument reads behind the call as it read before'; 0 by the template 'total and deterministic' (their statements: YtfjldfkgjejpmaaTotals.lean).
  GIVEN WITH THE SEED: the statements are not yours to turn. If you find one false, say at which input.
  Laid BY PROGRAM, IN A SANDBOX (cutbox-rows.mjs): the forced cells as the released guide's own fill.sh prints them over the translation 5c4e2a9bd71b3f05… (all of the seat's roots in one cut). By AI agents, Wed Nov 11 2026. No macro, syntax, notation, axiom, sorry.
-/
import Derived.Test.YtfjldfkgjejpmaaChecked
import GoSem.Claim
import GoSem.ClaimJoined
import GoSem.ClaimMapViews
import Derived.JoinedTies
import Derived.KernelRfl
namespace Go.Proofs.Ytfjldfkgjejpmaa
/- THE CELL 'sum', in the pinned program and in every row, IS THE sha256 OF THE DUMP (.gsa) THAT YtfjldfkgjejpmaaProg.lean LOADS. Nothing in Lean hashes anything: it is a label: what it is worth is what the hold of that sum in a sandbox is worth. -/
noncomputable def Try.pinned : Pinned := { name := "ytfjldfkgjejpmaa", sum := "5c4e2a9bd71b3f057d3a5d4f1b023981058f52f0841f9db41bf550bee1b12cce", checked := Try.checked }
namespace Rows
def none {H : Type} : Left H := { results := [], args := [] }

/-- 'martensitelaw07.MonitorPasses': WHATEVER THE INPUT: true; the input reads as it did. -/
def monitorPassesSpec : ChangeSpec := { name := "monitorPasses", fn := fun _ => fun
  | [d1, d2] => { results := [.lit (.bool true)], args := [d1, d2] }
  | _ => none }
def monitorPassesRow : OpenClaim := { program := "ytfjldfkgjejpmaa", sum := "5c4e2a9bd71b3f057d3a5d4f1b023981058f52f0841f9db41bf550bee1b12cce", func := "martensite/martensitelaw07.MonitorPasses", spec := "monitorPasses", unfollowed := true, recurses := true, apart := false }
def MonitorPassesSaid : Prop := monitorPassesRow.holds Try.pinned (OpenSpec.ofChange monitorPassesSpec)

/-- ITS FALSE NEIGHBOUR: 'it returns false'. Refute it at one input. -/
def monitorPassesWrong : ChangeSpec := { name := "monitorPasses", fn := fun _ => fun
  | [d1, d2] => { results := [.lit (.bool false)], args := [d1, d2] }
  | _ => none }
def MonitorPassesWrongFalsely : Prop := monitorPassesRow.holds Try.pinned (OpenSpec.ofChange monitorPassesWrong)

/-- 'martensitelaw07.MonitorDrifts': WHATEVER THE INPUT: true; the input reads as it did. -/
def monitorDriftsSpec : ChangeSpec := { name := "monitorDrifts", fn := fun _ => fun
  | [d1, d2] => { results := [.lit (.bool true)], args := [d1, d2] }
  | _ => none }
def monitorDriftsRow : OpenClaim := { program := "ytfjldfkgjejpmaa", sum := "5c4e2a9bd71b3f057d3a5d4f1b023981058f52f0841f9db41bf550bee1b12cce", func := "martensite/martensitelaw07.MonitorDrifts", spec := "monitorDrifts", unfollowed := true, recurses := true, apart := false }
def MonitorDriftsSaid : Prop := monitorDriftsRow.holds Try.pinned (OpenSpec.ofChange monitorDriftsSpec)

/-- ITS FALSE NEIGHBOUR: 'it returns false'. Refute it at one input. -/
def monitorDriftsWrong : ChangeSpec := { name := "monitorDrifts", fn := fun _ => fun
  | [d1, d2] => { results := [.lit (.bool false)], args := [d1, d2] }
  | _ => none }
def MonitorDriftsWrongFalsely : Prop := monitorDriftsRow.holds Try.pinned (OpenSpec.ofChange monitorDriftsWrong)

/-- 'martensitelaw07.MonitorRecords': WHATEVER THE INPUT: true; the input reads as it did. -/
def monitorRecordsSpec : ChangeSpec := { name := "monitorRecords", fn := fun _ => fun
  | [d1, d2] => { results := [.lit (.bool true)], args := [d1, d2] }
  | _ => none }
def monitorRecordsRow : OpenClaim := { program := "ytfjldfkgjejpmaa", sum := "5c4e2a9bd71b3f057d3a5d4f1b023981058f52f0841f9db41bf550bee1b12cce", func := "martensite/martensitelaw07.MonitorRecords", spec := "monitorRecords", unfollowed := true, recurses := true, apart := false }
def MonitorRecordsSaid : Prop := monitorRecordsRow.holds Try.pinned (OpenSpec.ofChange monitorRecordsSpec)

/-- ITS FALSE NEIGHBOUR: 'it returns false'. Refute it at one input. -/
def monitorRecordsWrong : ChangeSpec := { name := "monitorRecords", fn := fun _ => fun
  | [d1, d2] => { results := [.lit (.bool false)], args := [d1, d2] }
  | _ => none }
def MonitorRecordsWrongFalsely : Prop := monitorRecordsRow.holds Try.pinned (OpenSpec.ofChange monitorRecordsWrong)

/-- 'martensitelaw07.MonitorSwaps': WHATEVER THE INPUT: true; the input reads as it did. -/
def monitorSwapsSpec : ChangeSpec := { name := "monitorSwaps", fn := fun _ => fun
  | [d1, d2, d3] => { results := [.lit (.bool true)], args := [d1, d2, d3] }
  | _ => none }
def monitorSwapsRow : OpenClaim := { program := "ytfjldfkgjejpmaa", sum := "5c4e2a9bd71b3f057d3a5d4f1b023981058f52f0841f9db41bf550bee1b12cce", func := "martensite/martensitelaw07.MonitorSwaps", spec := "monitorSwaps", unfollowed := true, recurses := true, apart := false }
def MonitorSwapsSaid : Prop := monitorSwapsRow.holds Try.pinned (OpenSpec.ofChange monitorSwapsSpec)

/-- ITS FALSE NEIGHBOUR: 'it returns false'. Refute it at one input. -/
def monitorSwapsWrong : ChangeSpec := { name := "monitorSwaps", fn := fun _ => fun
  | [d1, d2, d3] => { results := [.lit (.bool false)], args := [d1, d2, d3] }
  | _ => none }
def MonitorSwapsWrongFalsely : Prop := monitorSwapsRow.holds Try.pinned (OpenSpec.ofChange monitorSwapsWrong)

/-- 'martensitelaw07.MonitorChutes': WHATEVER THE INPUT: true; the input reads as it did. -/
def monitorChutesSpec : ChangeSpec := { name := "monitorChutes", fn := fun _ => fun
  | [d1, d2] => { results := [.lit (.bool true)], args := [d1, d2] }
  | _ => none }
def monitorChutesRow : OpenClaim := { program := "ytfjldfkgjejpmaa", sum := "5c4e2a9bd71b3f057d3a5d4f1b023981058f52f0841f9db41bf550bee1b12cce", func := "martensite/martensitelaw07.MonitorChutes", spec := "monitorChutes", unfollowed := true, recurses := true, apart := false }
def MonitorChutesSaid : Prop := monitorChutesRow.holds Try.pinned (OpenSpec.ofChange monitorChutesSpec)

/-- ITS FALSE NEIGHBOUR: 'it returns false'. Refute it at one input. -/
def monitorChutesWrong : ChangeSpec := { name := "monitorChutes", fn := fun _ => fun
  | [d1, d2] => { results := [.lit (.bool false)], args := [d1, d2] }
  | _ => none }
def MonitorChutesWrongFalsely : Prop := monitorChutesRow.holds Try.pinned (OpenSpec.ofChange monitorChutesWrong)

/-- 'martensitelaw07.MonitorGoodChute': WHATEVER THE INPUT: true; the input reads as it did. -/
def monitorGoodChuteSpec : ChangeSpec := { name := "monitorGoodChute", fn := fun _ => fun
  | [d] => { results := [.lit (.bool true)], args := [d] }
  | _ => none }
def monitorGoodChuteRow : OpenClaim := { program := "ytfjldfkgjejpmaa", sum := "5c4e2a9bd71b3f057d3a5d4f1b023981058f52f0841f9db41bf550bee1b12cce", func := "martensite/martensitelaw07.MonitorGoodChute", spec := "monitorGoodChute", unfollowed := true, recurses := true, apart := false }
def MonitorGoodChuteSaid : Prop := monitorGoodChuteRow.holds Try.pinned (OpenSpec.ofChange monitorGoodChuteSpec)

/-- ITS FALSE NEIGHBOUR: 'it returns false'. Refute it at one input. -/
def monitorGoodChuteWrong : ChangeSpec := { name := "monitorGoodChute", fn := fun _ => fun
  | [d] => { results := [.lit (.bool false)], args := [d] }
  | _ => none }
def MonitorGoodChuteWrongFalsely : Prop := monitorGoodChuteRow.holds Try.pinned (OpenSpec.ofChange monitorGoodChuteWrong)

/- THE SECOND FORM. 'bulk': how many values and letters a reading holds, each counted each time it is reached (what is shared counts as often as it is met; a slice's spare places count too). A statement '..UptoSaid' is the law's where the arguments, and the package variables that the reading takes, are together of bulk at most 1048576: NARROWER than '..Said'. Prove '..Said' where nothing that the law and all that it calls make is longer than what came in: it says more and counts as full. Else prove '..UptoSaid'. A law counts once. -/
mutual
def uptoBulk {H : Type} : DataW H → Nat
  | .lit (.string bytes) => bytes.length + 1
  | .lit _ => 1
  | .nil => 1
  | .ptr d => uptoBulk d + 1
  | .slice elems spare => uptoBulkAll elems + uptoBulkAll spare + 1
  | .agg parts => uptoBulkAll parts + 1
  | .iface _ d => uptoBulk d + 1
  | .map entries => uptoBulkEntries entries + 1
  | .held _ => 1
def uptoBulkAll {H : Type} : List (DataW H) → Nat
  | [] => 0
  | d :: r => uptoBulk d + uptoBulkAll r
def uptoBulkEntries {H : Type} : List (Lit × DataW H) → Nat
  | [] => 0
  | x :: r => uptoBulkEntry x + uptoBulkEntries r
def uptoBulkEntry {H : Type} : Lit × DataW H → Nat
  | (.string bytes, d) => bytes.length + uptoBulk d + 1
  | (_, d) => uptoBulk d + 1
 end
def uptoSmall : (H : Type) → List (DataW H) → Bool := fun _ ds => decide (uptoBulkAll ds ≤ 1048576)
def OpenSpec.upto (s : _root_.Go.ChangeSpec) : _root_.Go.OpenSpec := { _root_.Go.OpenSpec.ofChange s with cond := some uptoSmall }

/-- 'martensitelaw07.MonitorPasses', WHERE WHAT IT READS IS OF BULK AT MOST 1048576: true; the input reads as it did. -/
def monitorPassesUptoRow : OpenClaim := { program := "ytfjldfkgjejpmaa", sum := "5c4e2a9bd71b3f057d3a5d4f1b023981058f52f0841f9db41bf550bee1b12cce", func := "martensite/martensitelaw07.MonitorPasses", spec := "monitorPasses", unfollowed := true, recurses := true, apart := false, narrowed := true }
def MonitorPassesUptoSaid : Prop := monitorPassesUptoRow.holds Try.pinned (OpenSpec.upto monitorPassesSpec)

/-- 'martensitelaw07.MonitorDrifts', WHERE WHAT IT READS IS OF BULK AT MOST 1048576: true; the input reads as it did. -/
def monitorDriftsUptoRow : OpenClaim := { program := "ytfjldfkgjejpmaa", sum := "5c4e2a9bd71b3f057d3a5d4f1b023981058f52f0841f9db41bf550bee1b12cce", func := "martensite/martensitelaw07.MonitorDrifts", spec := "monitorDrifts", unfollowed := true, recurses := true, apart := false, narrowed := true }
def MonitorDriftsUptoSaid : Prop := monitorDriftsUptoRow.holds Try.pinned (OpenSpec.upto monitorDriftsSpec)

/-- 'martensitelaw07.MonitorRecords', WHERE WHAT IT READS IS OF BULK AT MOST 1048576: true; the input reads as it did. -/
def monitorRecordsUptoRow : OpenClaim := { program := "ytfjldfkgjejpmaa", sum := "5c4e2a9bd71b3f057d3a5d4f1b023981058f52f0841f9db41bf550bee1b12cce", func := "martensite/martensitelaw07.MonitorRecords", spec := "monitorRecords", unfollowed := true, recurses := true, apart := false, narrowed := true }
def MonitorRecordsUptoSaid : Prop := monitorRecordsUptoRow.holds Try.pinned (OpenSpec.upto monitorRecordsSpec)

/-- 'martensitelaw07.MonitorSwaps', WHERE WHAT IT READS IS OF BULK AT MOST 1048576: true; the input reads as it did. -/
def monitorSwapsUptoRow : OpenClaim := { program := "ytfjldfkgjejpmaa", sum := "5c4e2a9bd71b3f057d3a5d4f1b023981058f52f0841f9db41bf550bee1b12cce", func := "martensite/martensitelaw07.MonitorSwaps", spec := "monitorSwaps", unfollowed := true, recurses := true, apart := false, narrowed := true }
def MonitorSwapsUptoSaid : Prop := monitorSwapsUptoRow.holds Try.pinned (OpenSpec.upto monitorSwapsSpec)

/-- 'martensitelaw07.MonitorChutes', WHERE WHAT IT READS IS OF BULK AT MOST 1048576: true; the input reads as it did. -/
def monitorChutesUptoRow : OpenClaim := { program := "ytfjldfkgjejpmaa", sum := "5c4e2a9bd71b3f057d3a5d4f1b023981058f52f0841f9db41bf550bee1b12cce", func := "martensite/martensitelaw07.MonitorChutes", spec := "monitorChutes", unfollowed := true, recurses := true, apart := false, narrowed := true }
def MonitorChutesUptoSaid : Prop := monitorChutesUptoRow.holds Try.pinned (OpenSpec.upto monitorChutesSpec)

/-- 'martensitelaw07.MonitorGoodChute', WHERE WHAT IT READS IS OF BULK AT MOST 1048576: true; the input reads as it did. -/
def monitorGoodChuteUptoRow : OpenClaim := { program := "ytfjldfkgjejpmaa", sum := "5c4e2a9bd71b3f057d3a5d4f1b023981058f52f0841f9db41bf550bee1b12cce", func := "martensite/martensitelaw07.MonitorGoodChute", spec := "monitorGoodChute", unfollowed := true, recurses := true, apart := false, narrowed := true }
def MonitorGoodChuteUptoSaid : Prop := monitorGoodChuteUptoRow.holds Try.pinned (OpenSpec.upto monitorGoodChuteSpec)

end Rows
end Go.Proofs.Ytfjldfkgjejpmaa
