/-
  No cell of these rows narrows 'for every input' (looked for: loops, veiled, ifaces, maps, wideKeys, modest, calm, conditions, laid).
  DERIVED. THE GIVEN ROWS OF THIS SEAT. 4 by the template 'for every input the law returns true; each argument reads behind the call as it read before'; 0 by the template 'total and deterministic' (their statements: YtadbpelpbaikiaaTotals.lean).
  GIVEN WITH THE SEED: the statements are not yours to turn. If you find one false, say at which input.
  Laid BY PROGRAM, IN A SANDBOX (cutbox-rows.mjs): the forced cells as the released guide's own fill.sh prints them over the translation c221451ac7e9d5dc… (all of the seat's roots in one cut). By AI agents, Wed Nov 11 2026. No macro, syntax, notation, axiom, sorry.
-/
import Derived.Test.YtadbpelpbaikiaaChecked
import GoSem.Claim
import GoSem.ClaimJoined
import GoSem.ClaimMapViews
import Derived.JoinedTies
import Derived.KernelRfl
namespace Go.Proofs.Ytadbpelpbaikiaa
/- THE CELL 'sum', in the pinned program and in every row, IS THE sha256 OF THE DUMP (.gsa) THAT YtadbpelpbaikiaaProg.lean LOADS. Nothing in Lean hashes anything: it is a label: what it is worth is what the hold of that sum in a sandbox is worth. -/
noncomputable def Try.pinned : Pinned := { name := "ytadbpelpbaikiaa", sum := "c221451ac7e9d5dc4e283a30a4ecf15ed34828acc8b7ff80a3cb1eb92dbe77cb", checked := Try.checked }
namespace Rows
def none {H : Type} : Left H := { results := [], args := [] }

/-- 'shelfmarklaw08.VaultForms': WHATEVER THE INPUT: true; the input reads as it did. -/
def vaultFormsSpec : ChangeSpec := { name := "vaultForms", fn := fun _ => fun
  | [d] => { results := [.lit (.bool true)], args := [d] }
  | _ => none }
def vaultFormsRow : OpenClaim := { program := "ytadbpelpbaikiaa", sum := "c221451ac7e9d5dc4e283a30a4ecf15ed34828acc8b7ff80a3cb1eb92dbe77cb", func := "shelfmark/shelfmarklaw08.VaultForms", spec := "vaultForms", unfollowed := true, recurses := true, apart := false }
def VaultFormsSaid : Prop := vaultFormsRow.holds Try.pinned (OpenSpec.ofChange vaultFormsSpec)

/-- ITS FALSE NEIGHBOUR: 'it returns false'. Refute it at one input. -/
def vaultFormsWrong : ChangeSpec := { name := "vaultForms", fn := fun _ => fun
  | [d] => { results := [.lit (.bool false)], args := [d] }
  | _ => none }
def VaultFormsWrongFalsely : Prop := vaultFormsRow.holds Try.pinned (OpenSpec.ofChange vaultFormsWrong)

/-- 'shelfmarklaw08.VaultSettles': WHATEVER THE INPUT: true; the input reads as it did. -/
def vaultSettlesSpec : ChangeSpec := { name := "vaultSettles", fn := fun _ => fun
  | [d] => { results := [.lit (.bool true)], args := [d] }
  | _ => none }
def vaultSettlesRow : OpenClaim := { program := "ytadbpelpbaikiaa", sum := "c221451ac7e9d5dc4e283a30a4ecf15ed34828acc8b7ff80a3cb1eb92dbe77cb", func := "shelfmark/shelfmarklaw08.VaultSettles", spec := "vaultSettles", unfollowed := true, recurses := true, apart := false }
def VaultSettlesSaid : Prop := vaultSettlesRow.holds Try.pinned (OpenSpec.ofChange vaultSettlesSpec)

/-- ITS FALSE NEIGHBOUR: 'it returns false'. Refute it at one input. -/
def vaultSettlesWrong : ChangeSpec := { name := "vaultSettles", fn := fun _ => fun
  | [d] => { results := [.lit (.bool false)], args := [d] }
  | _ => none }
def VaultSettlesWrongFalsely : Prop := vaultSettlesRow.holds Try.pinned (OpenSpec.ofChange vaultSettlesWrong)

/-- 'shelfmarklaw08.VaultPlays': WHATEVER THE INPUT: true; the input reads as it did. -/
def vaultPlaysSpec : ChangeSpec := { name := "vaultPlays", fn := fun _ => fun
  | [d] => { results := [.lit (.bool true)], args := [d] }
  | _ => none }
def vaultPlaysRow : OpenClaim := { program := "ytadbpelpbaikiaa", sum := "c221451ac7e9d5dc4e283a30a4ecf15ed34828acc8b7ff80a3cb1eb92dbe77cb", func := "shelfmark/shelfmarklaw08.VaultPlays", spec := "vaultPlays", unfollowed := true, recurses := true, apart := false }
def VaultPlaysSaid : Prop := vaultPlaysRow.holds Try.pinned (OpenSpec.ofChange vaultPlaysSpec)

/-- ITS FALSE NEIGHBOUR: 'it returns false'. Refute it at one input. -/
def vaultPlaysWrong : ChangeSpec := { name := "vaultPlays", fn := fun _ => fun
  | [d] => { results := [.lit (.bool false)], args := [d] }
  | _ => none }
def VaultPlaysWrongFalsely : Prop := vaultPlaysRow.holds Try.pinned (OpenSpec.ofChange vaultPlaysWrong)

/-- 'shelfmarklaw08.VaultFull': WHATEVER THE INPUT: true; the input reads as it did. -/
def vaultFullSpec : ChangeSpec := { name := "vaultFull", fn := fun _ => fun
  | [d1, d2] => { results := [.lit (.bool true)], args := [d1, d2] }
  | _ => none }
def vaultFullRow : OpenClaim := { program := "ytadbpelpbaikiaa", sum := "c221451ac7e9d5dc4e283a30a4ecf15ed34828acc8b7ff80a3cb1eb92dbe77cb", func := "shelfmark/shelfmarklaw08.VaultFull", spec := "vaultFull", unfollowed := true, recurses := true, apart := false }
def VaultFullSaid : Prop := vaultFullRow.holds Try.pinned (OpenSpec.ofChange vaultFullSpec)

/-- ITS FALSE NEIGHBOUR: 'it returns false'. Refute it at one input. -/
def vaultFullWrong : ChangeSpec := { name := "vaultFull", fn := fun _ => fun
  | [d1, d2] => { results := [.lit (.bool false)], args := [d1, d2] }
  | _ => none }
def VaultFullWrongFalsely : Prop := vaultFullRow.holds Try.pinned (OpenSpec.ofChange vaultFullWrong)

/- THE SECOND FORM. 'bulk': how many values and letters a reading holds, each counted each time it is reached (what is shared counts as often as it is met; a slice's spare places count too). A statement '..UptoSaid' is the law's where the arguments, and the package variables that the reading takes, are together of bulk at most 1048576: NARROWER than '..Said'. Prove '..Said' where nothing that the law and all that it calls make is longer than what came in: it says more and counts as full. Else prove '..UptoSaid'. A law counts once. -/
mutual
def uptoBulk {H : Type} : DataW H → Nat
  | .lit (.string bytes) => bytes.length + 1
  | .lit _ => 1
  | .nil => 1
  | .ptr d => uptoBulk d + 1
  | .slice elems spare => uptoBulkAll elems + uptoBulkAll spare + 1
  | .agg parts => uptoBulkAll parts + 1
  | .iface _ d => uptoBulk d + 1
  | .map entries => uptoBulkEntries entries + 1
  | .held _ => 1
def uptoBulkAll {H : Type} : List (DataW H) → Nat
  | [] => 0
  | d :: r => uptoBulk d + uptoBulkAll r
def uptoBulkEntries {H : Type} : List (Lit × DataW H) → Nat
  | [] => 0
  | x :: r => uptoBulkEntry x + uptoBulkEntries r
def uptoBulkEntry {H : Type} : Lit × DataW H → Nat
  | (.string bytes, d) => bytes.length + uptoBulk d + 1
  | (_, d) => uptoBulk d + 1
 end
def uptoSmall : (H : Type) → List (DataW H) → Bool := fun _ ds => decide (uptoBulkAll ds ≤ 1048576)
def OpenSpec.upto (s : _root_.Go.ChangeSpec) : _root_.Go.OpenSpec := { _root_.Go.OpenSpec.ofChange s with cond := some uptoSmall }

/-- 'shelfmarklaw08.VaultForms', WHERE WHAT IT READS IS OF BULK AT MOST 1048576: true; the input reads as it did. -/
def vaultFormsUptoRow : OpenClaim := { program := "ytadbpelpbaikiaa", sum := "c221451ac7e9d5dc4e283a30a4ecf15ed34828acc8b7ff80a3cb1eb92dbe77cb", func := "shelfmark/shelfmarklaw08.VaultForms", spec := "vaultForms", unfollowed := true, recurses := true, apart := false, narrowed := true }
def VaultFormsUptoSaid : Prop := vaultFormsUptoRow.holds Try.pinned (OpenSpec.upto vaultFormsSpec)

/-- 'shelfmarklaw08.VaultSettles', WHERE WHAT IT READS IS OF BULK AT MOST 1048576: true; the input reads as it did. -/
def vaultSettlesUptoRow : OpenClaim := { program := "ytadbpelpbaikiaa", sum := "c221451ac7e9d5dc4e283a30a4ecf15ed34828acc8b7ff80a3cb1eb92dbe77cb", func := "shelfmark/shelfmarklaw08.VaultSettles", spec := "vaultSettles", unfollowed := true, recurses := true, apart := false, narrowed := true }
def VaultSettlesUptoSaid : Prop := vaultSettlesUptoRow.holds Try.pinned (OpenSpec.upto vaultSettlesSpec)

/-- 'shelfmarklaw08.VaultPlays', WHERE WHAT IT READS IS OF BULK AT MOST 1048576: true; the input reads as it did. -/
def vaultPlaysUptoRow : OpenClaim := { program := "ytadbpelpbaikiaa", sum := "c221451ac7e9d5dc4e283a30a4ecf15ed34828acc8b7ff80a3cb1eb92dbe77cb", func := "shelfmark/shelfmarklaw08.VaultPlays", spec := "vaultPlays", unfollowed := true, recurses := true, apart := false, narrowed := true }
def VaultPlaysUptoSaid : Prop := vaultPlaysUptoRow.holds Try.pinned (OpenSpec.upto vaultPlaysSpec)

/-- 'shelfmarklaw08.VaultFull', WHERE WHAT IT READS IS OF BULK AT MOST 1048576: true; the input reads as it did. -/
def vaultFullUptoRow : OpenClaim := { program := "ytadbpelpbaikiaa", sum := "c221451ac7e9d5dc4e283a30a4ecf15ed34828acc8b7ff80a3cb1eb92dbe77cb", func := "shelfmark/shelfmarklaw08.VaultFull", spec := "vaultFull", unfollowed := true, recurses := true, apart := false, narrowed := true }
def VaultFullUptoSaid : Prop := vaultFullUptoRow.holds Try.pinned (OpenSpec.upto vaultFullSpec)

end Rows
end Go.Proofs.Ytadbpelpbaikiaa
