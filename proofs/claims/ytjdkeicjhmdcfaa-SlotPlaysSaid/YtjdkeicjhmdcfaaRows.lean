/-
  No cell of these rows narrows 'for every input' (looked for: loops, veiled, ifaces, maps, wideKeys, modest, calm, conditions, laid).
  DERIVED. THE GIVEN ROWS OF THIS SEAT. 12 by the template 'for every input the law returns true; each argument reads behind the call as it read before'; 0 by the template 'total and deterministic' (their statements: YtjdkeicjhmdcfaaTotals.lean).
  GIVEN WITH THE SEED: the statements are not yours to turn. If you find one false, say at which input.
  Laid BY PROGRAM, IN A SANDBOX (cutbox-rows.mjs): the forced cells as the released guide's own fill.sh prints them over the translation 45e8e22c4c2cab30… (all of the seat's roots in one cut). By AI agents, Wed Nov 11 2026. No macro, syntax, notation, axiom, sorry.
-/
import Derived.Test.YtjdkeicjhmdcfaaChecked
import GoSem.Claim
import GoSem.ClaimJoined
import GoSem.ClaimMapViews
import Derived.JoinedTies
import Derived.KernelRfl
namespace Go.Proofs.Ytjdkeicjhmdcfaa
/- THE CELL 'sum', in the pinned program and in every row, IS THE sha256 OF THE DUMP (.gsa) THAT YtjdkeicjhmdcfaaProg.lean LOADS. Nothing in Lean hashes anything: it is a label: what it is worth is what the hold of that sum in a sandbox is worth. -/
noncomputable def Try.pinned : Pinned := { name := "ytjdkeicjhmdcfaa", sum := "45e8e22c4c2cab30d5a3cc716c5b3b03dde1d60fcf07f6368d27535c0ff7e702", checked := Try.checked }
namespace Rows
def none {H : Type} : Left H := { results := [], args := [] }

/-- 'wharfingerlaw20.WireFull': WHATEVER THE INPUT: true; the input reads as it did. -/
def wireFullSpec : ChangeSpec := { name := "wireFull", fn := fun _ => fun
  | [d1, d2] => { results := [.lit (.bool true)], args := [d1, d2] }
  | _ => none }
def wireFullRow : OpenClaim := { program := "ytjdkeicjhmdcfaa", sum := "45e8e22c4c2cab30d5a3cc716c5b3b03dde1d60fcf07f6368d27535c0ff7e702", func := "wharfinger/wharfingerlaw20.WireFull", spec := "wireFull", apart := false }
def WireFullSaid : Prop := wireFullRow.holds Try.pinned (OpenSpec.ofChange wireFullSpec)

/-- ITS FALSE NEIGHBOUR: 'it returns false'. Refute it at one input. -/
def wireFullWrong : ChangeSpec := { name := "wireFull", fn := fun _ => fun
  | [d1, d2] => { results := [.lit (.bool false)], args := [d1, d2] }
  | _ => none }
def WireFullWrongFalsely : Prop := wireFullRow.holds Try.pinned (OpenSpec.ofChange wireFullWrong)

/-- 'wharfingerlaw20.WireAll': WHATEVER THE INPUT: true; the input reads as it did. -/
def wireAllSpec : ChangeSpec := { name := "wireAll", fn := fun _ => fun
  | [d1, d2] => { results := [.lit (.bool true)], args := [d1, d2] }
  | _ => none }
def wireAllRow : OpenClaim := { program := "ytjdkeicjhmdcfaa", sum := "45e8e22c4c2cab30d5a3cc716c5b3b03dde1d60fcf07f6368d27535c0ff7e702", func := "wharfinger/wharfingerlaw20.WireAll", spec := "wireAll", apart := false }
def WireAllSaid : Prop := wireAllRow.holds Try.pinned (OpenSpec.ofChange wireAllSpec)

/-- ITS FALSE NEIGHBOUR: 'it returns false'. Refute it at one input. -/
def wireAllWrong : ChangeSpec := { name := "wireAll", fn := fun _ => fun
  | [d1, d2] => { results := [.lit (.bool false)], args := [d1, d2] }
  | _ => none }
def WireAllWrongFalsely : Prop := wireAllRow.holds Try.pinned (OpenSpec.ofChange wireAllWrong)

/-- 'wharfingerlaw20.WirePlays': WHATEVER THE INPUT: true; the input reads as it did. -/
def wirePlaysSpec : ChangeSpec := { name := "wirePlays", fn := fun _ => fun
  | [d] => { results := [.lit (.bool true)], args := [d] }
  | _ => none }
def wirePlaysRow : OpenClaim := { program := "ytjdkeicjhmdcfaa", sum := "45e8e22c4c2cab30d5a3cc716c5b3b03dde1d60fcf07f6368d27535c0ff7e702", func := "wharfinger/wharfingerlaw20.WirePlays", spec := "wirePlays", apart := false }
def WirePlaysSaid : Prop := wirePlaysRow.holds Try.pinned (OpenSpec.ofChange wirePlaysSpec)

/-- ITS FALSE NEIGHBOUR: 'it returns false'. Refute it at one input. -/
def wirePlaysWrong : ChangeSpec := { name := "wirePlays", fn := fun _ => fun
  | [d] => { results := [.lit (.bool false)], args := [d] }
  | _ => none }
def WirePlaysWrongFalsely : Prop := wirePlaysRow.holds Try.pinned (OpenSpec.ofChange wirePlaysWrong)

/-- 'wharfingerlaw15.SlotApart': WHATEVER THE INPUT: true; the input reads as it did. -/
def slotApartSpec : ChangeSpec := { name := "slotApart", fn := fun _ => fun
  | [d1, d2] => { results := [.lit (.bool true)], args := [d1, d2] }
  | _ => none }
def slotApartRow : OpenClaim := { program := "ytjdkeicjhmdcfaa", sum := "45e8e22c4c2cab30d5a3cc716c5b3b03dde1d60fcf07f6368d27535c0ff7e702", func := "wharfinger/wharfingerlaw15.SlotApart", spec := "slotApart", apart := false }
def SlotApartSaid : Prop := slotApartRow.holds Try.pinned (OpenSpec.ofChange slotApartSpec)

/-- ITS FALSE NEIGHBOUR: 'it returns false'. Refute it at one input. -/
def slotApartWrong : ChangeSpec := { name := "slotApart", fn := fun _ => fun
  | [d1, d2] => { results := [.lit (.bool false)], args := [d1, d2] }
  | _ => none }
def SlotApartWrongFalsely : Prop := slotApartRow.holds Try.pinned (OpenSpec.ofChange slotApartWrong)

/-- 'wharfingerlaw02.WeakOf': WHATEVER THE INPUT: true; the input reads as it did. -/
def weakOfSpec : ChangeSpec := { name := "weakOf", fn := fun _ => fun
  | [d] => { results := [.lit (.bool true)], args := [d] }
  | _ => none }
def weakOfRow : OpenClaim := { program := "ytjdkeicjhmdcfaa", sum := "45e8e22c4c2cab30d5a3cc716c5b3b03dde1d60fcf07f6368d27535c0ff7e702", func := "wharfinger/wharfingerlaw02.WeakOf", spec := "weakOf", apart := false }
def WeakOfSaid : Prop := weakOfRow.holds Try.pinned (OpenSpec.ofChange weakOfSpec)

/-- ITS FALSE NEIGHBOUR: 'it returns false'. Refute it at one input. -/
def weakOfWrong : ChangeSpec := { name := "weakOf", fn := fun _ => fun
  | [d] => { results := [.lit (.bool false)], args := [d] }
  | _ => none }
def WeakOfWrongFalsely : Prop := weakOfRow.holds Try.pinned (OpenSpec.ofChange weakOfWrong)

/-- 'wharfingerlaw02.WeakRolls': WHATEVER THE INPUT: true; the input reads as it did. -/
def weakRollsSpec : ChangeSpec := { name := "weakRolls", fn := fun _ => fun
  | [d1, d2] => { results := [.lit (.bool true)], args := [d1, d2] }
  | _ => none }
def weakRollsRow : OpenClaim := { program := "ytjdkeicjhmdcfaa", sum := "45e8e22c4c2cab30d5a3cc716c5b3b03dde1d60fcf07f6368d27535c0ff7e702", func := "wharfinger/wharfingerlaw02.WeakRolls", spec := "weakRolls", apart := false }
def WeakRollsSaid : Prop := weakRollsRow.holds Try.pinned (OpenSpec.ofChange weakRollsSpec)

/-- ITS FALSE NEIGHBOUR: 'it returns false'. Refute it at one input. -/
def weakRollsWrong : ChangeSpec := { name := "weakRolls", fn := fun _ => fun
  | [d1, d2] => { results := [.lit (.bool false)], args := [d1, d2] }
  | _ => none }
def WeakRollsWrongFalsely : Prop := weakRollsRow.holds Try.pinned (OpenSpec.ofChange weakRollsWrong)

/-- 'wharfingerlaw02.WeakShrinks': WHATEVER THE INPUT: true; the input reads as it did. -/
def weakShrinksSpec : ChangeSpec := { name := "weakShrinks", fn := fun _ => fun
  | [d] => { results := [.lit (.bool true)], args := [d] }
  | _ => none }
def weakShrinksRow : OpenClaim := { program := "ytjdkeicjhmdcfaa", sum := "45e8e22c4c2cab30d5a3cc716c5b3b03dde1d60fcf07f6368d27535c0ff7e702", func := "wharfinger/wharfingerlaw02.WeakShrinks", spec := "weakShrinks", apart := false }
def WeakShrinksSaid : Prop := weakShrinksRow.holds Try.pinned (OpenSpec.ofChange weakShrinksSpec)

/-- ITS FALSE NEIGHBOUR: 'it returns false'. Refute it at one input. -/
def weakShrinksWrong : ChangeSpec := { name := "weakShrinks", fn := fun _ => fun
  | [d] => { results := [.lit (.bool false)], args := [d] }
  | _ => none }
def WeakShrinksWrongFalsely : Prop := weakShrinksRow.holds Try.pinned (OpenSpec.ofChange weakShrinksWrong)

/-- 'wharfingerlaw02.WeakJoins': WHATEVER THE INPUT: true; the input reads as it did. -/
def weakJoinsSpec : ChangeSpec := { name := "weakJoins", fn := fun _ => fun
  | [d1, d2] => { results := [.lit (.bool true)], args := [d1, d2] }
  | _ => none }
def weakJoinsRow : OpenClaim := { program := "ytjdkeicjhmdcfaa", sum := "45e8e22c4c2cab30d5a3cc716c5b3b03dde1d60fcf07f6368d27535c0ff7e702", func := "wharfinger/wharfingerlaw02.WeakJoins", spec := "weakJoins", apart := false }
def WeakJoinsSaid : Prop := weakJoinsRow.holds Try.pinned (OpenSpec.ofChange weakJoinsSpec)

/-- ITS FALSE NEIGHBOUR: 'it returns false'. Refute it at one input. -/
def weakJoinsWrong : ChangeSpec := { name := "weakJoins", fn := fun _ => fun
  | [d1, d2] => { results := [.lit (.bool false)], args := [d1, d2] }
  | _ => none }
def WeakJoinsWrongFalsely : Prop := weakJoinsRow.holds Try.pinned (OpenSpec.ofChange weakJoinsWrong)

/-- 'wharfingerlaw02.WeakBytes': WHATEVER THE INPUT: true; the input reads as it did. -/
def weakBytesSpec : ChangeSpec := { name := "weakBytes", fn := fun _ => fun
  | [d1, d2] => { results := [.lit (.bool true)], args := [d1, d2] }
  | _ => none }
def weakBytesRow : OpenClaim := { program := "ytjdkeicjhmdcfaa", sum := "45e8e22c4c2cab30d5a3cc716c5b3b03dde1d60fcf07f6368d27535c0ff7e702", func := "wharfinger/wharfingerlaw02.WeakBytes", spec := "weakBytes", apart := false }
def WeakBytesSaid : Prop := weakBytesRow.holds Try.pinned (OpenSpec.ofChange weakBytesSpec)

/-- ITS FALSE NEIGHBOUR: 'it returns false'. Refute it at one input. -/
def weakBytesWrong : ChangeSpec := { name := "weakBytes", fn := fun _ => fun
  | [d1, d2] => { results := [.lit (.bool false)], args := [d1, d2] }
  | _ => none }
def WeakBytesWrongFalsely : Prop := weakBytesRow.holds Try.pinned (OpenSpec.ofChange weakBytesWrong)

/-- 'wharfingerlaw02.WeakRound': WHATEVER THE INPUT: true; the input reads as it did. -/
def weakRoundSpec : ChangeSpec := { name := "weakRound", fn := fun _ => fun
  | [d1, d2] => { results := [.lit (.bool true)], args := [d1, d2] }
  | _ => none }
def weakRoundRow : OpenClaim := { program := "ytjdkeicjhmdcfaa", sum := "45e8e22c4c2cab30d5a3cc716c5b3b03dde1d60fcf07f6368d27535c0ff7e702", func := "wharfinger/wharfingerlaw02.WeakRound", spec := "weakRound", apart := false }
def WeakRoundSaid : Prop := weakRoundRow.holds Try.pinned (OpenSpec.ofChange weakRoundSpec)

/-- ITS FALSE NEIGHBOUR: 'it returns false'. Refute it at one input. -/
def weakRoundWrong : ChangeSpec := { name := "weakRound", fn := fun _ => fun
  | [d1, d2] => { results := [.lit (.bool false)], args := [d1, d2] }
  | _ => none }
def WeakRoundWrongFalsely : Prop := weakRoundRow.holds Try.pinned (OpenSpec.ofChange weakRoundWrong)

/-- 'wharfingerlaw15.SlotPlays': WHATEVER THE INPUT: true; the input reads as it did. -/
def slotPlaysSpec : ChangeSpec := { name := "slotPlays", fn := fun _ => fun
  | [d1, d2] => { results := [.lit (.bool true)], args := [d1, d2] }
  | _ => none }
def slotPlaysRow : OpenClaim := { program := "ytjdkeicjhmdcfaa", sum := "45e8e22c4c2cab30d5a3cc716c5b3b03dde1d60fcf07f6368d27535c0ff7e702", func := "wharfinger/wharfingerlaw15.SlotPlays", spec := "slotPlays", apart := false }
def SlotPlaysSaid : Prop := slotPlaysRow.holds Try.pinned (OpenSpec.ofChange slotPlaysSpec)

/-- ITS FALSE NEIGHBOUR: 'it returns false'. Refute it at one input. -/
def slotPlaysWrong : ChangeSpec := { name := "slotPlays", fn := fun _ => fun
  | [d1, d2] => { results := [.lit (.bool false)], args := [d1, d2] }
  | _ => none }
def SlotPlaysWrongFalsely : Prop := slotPlaysRow.holds Try.pinned (OpenSpec.ofChange slotPlaysWrong)

/-- 'wharfingerlaw15.SlotLimits': WHATEVER THE INPUT: true; the input reads as it did. -/
def slotLimitsSpec : ChangeSpec := { name := "slotLimits", fn := fun _ => fun
  | [d1, d2] => { results := [.lit (.bool true)], args := [d1, d2] }
  | _ => none }
def slotLimitsRow : OpenClaim := { program := "ytjdkeicjhmdcfaa", sum := "45e8e22c4c2cab30d5a3cc716c5b3b03dde1d60fcf07f6368d27535c0ff7e702", func := "wharfinger/wharfingerlaw15.SlotLimits", spec := "slotLimits", apart := false }
def SlotLimitsSaid : Prop := slotLimitsRow.holds Try.pinned (OpenSpec.ofChange slotLimitsSpec)

/-- ITS FALSE NEIGHBOUR: 'it returns false'. Refute it at one input. -/
def slotLimitsWrong : ChangeSpec := { name := "slotLimits", fn := fun _ => fun
  | [d1, d2] => { results := [.lit (.bool false)], args := [d1, d2] }
  | _ => none }
def SlotLimitsWrongFalsely : Prop := slotLimitsRow.holds Try.pinned (OpenSpec.ofChange slotLimitsWrong)

/- THE SECOND FORM. 'bulk': how many values and letters a reading holds, each counted each time it is reached (what is shared counts as often as it is met; a slice's spare places count too). A statement '..UptoSaid' is the law's where the arguments, and the package variables that the reading takes, are together of bulk at most 1048576: NARROWER than '..Said'. Prove '..Said' where nothing that the law and all that it calls make is longer than what came in: it says more and counts as full. Else prove '..UptoSaid'. A law counts once. -/
mutual
def uptoBulk {H : Type} : DataW H → Nat
  | .lit (.string bytes) => bytes.length + 1
  | .lit _ => 1
  | .nil => 1
  | .ptr d => uptoBulk d + 1
  | .slice elems spare => uptoBulkAll elems + uptoBulkAll spare + 1
  | .agg parts => uptoBulkAll parts + 1
  | .iface _ d => uptoBulk d + 1
  | .map entries => uptoBulkEntries entries + 1
  | .held _ => 1
def uptoBulkAll {H : Type} : List (DataW H) → Nat
  | [] => 0
  | d :: r => uptoBulk d + uptoBulkAll r
def uptoBulkEntries {H : Type} : List (Lit × DataW H) → Nat
  | [] => 0
  | x :: r => uptoBulkEntry x + uptoBulkEntries r
def uptoBulkEntry {H : Type} : Lit × DataW H → Nat
  | (.string bytes, d) => bytes.length + uptoBulk d + 1
  | (_, d) => uptoBulk d + 1
 end
def uptoSmall : (H : Type) → List (DataW H) → Bool := fun _ ds => decide (uptoBulkAll ds ≤ 1048576)
def OpenSpec.upto (s : _root_.Go.ChangeSpec) : _root_.Go.OpenSpec := { _root_.Go.OpenSpec.ofChange s with cond := some uptoSmall }

/-- 'wharfingerlaw20.WireFull', WHERE WHAT IT READS IS OF BULK AT MOST 1048576: true; the input reads as it did. -/
def wireFullUptoRow : OpenClaim := { program := "ytjdkeicjhmdcfaa", sum := "45e8e22c4c2cab30d5a3cc716c5b3b03dde1d60fcf07f6368d27535c0ff7e702", func := "wharfinger/wharfingerlaw20.WireFull", spec := "wireFull", apart := false, narrowed := true }
def WireFullUptoSaid : Prop := wireFullUptoRow.holds Try.pinned (OpenSpec.upto wireFullSpec)

/-- 'wharfingerlaw20.WireAll', WHERE WHAT IT READS IS OF BULK AT MOST 1048576: true; the input reads as it did. -/
def wireAllUptoRow : OpenClaim := { program := "ytjdkeicjhmdcfaa", sum := "45e8e22c4c2cab30d5a3cc716c5b3b03dde1d60fcf07f6368d27535c0ff7e702", func := "wharfinger/wharfingerlaw20.WireAll", spec := "wireAll", apart := false, narrowed := true }
def WireAllUptoSaid : Prop := wireAllUptoRow.holds Try.pinned (OpenSpec.upto wireAllSpec)

/-- 'wharfingerlaw20.WirePlays', WHERE WHAT IT READS IS OF BULK AT MOST 1048576: true; the input reads as it did. -/
def wirePlaysUptoRow : OpenClaim := { program := "ytjdkeicjhmdcfaa", sum := "45e8e22c4c2cab30d5a3cc716c5b3b03dde1d60fcf07f6368d27535c0ff7e702", func := "wharfinger/wharfingerlaw20.WirePlays", spec := "wirePlays", apart := false, narrowed := true }
def WirePlaysUptoSaid : Prop := wirePlaysUptoRow.holds Try.pinned (OpenSpec.upto wirePlaysSpec)

/-- 'wharfingerlaw15.SlotApart', WHERE WHAT IT READS IS OF BULK AT MOST 1048576: true; the input reads as it did. -/
def slotApartUptoRow : OpenClaim := { program := "ytjdkeicjhmdcfaa", sum := "45e8e22c4c2cab30d5a3cc716c5b3b03dde1d60fcf07f6368d27535c0ff7e702", func := "wharfinger/wharfingerlaw15.SlotApart", spec := "slotApart", apart := false, narrowed := true }
def SlotApartUptoSaid : Prop := slotApartUptoRow.holds Try.pinned (OpenSpec.upto slotApartSpec)

/-- 'wharfingerlaw02.WeakOf', WHERE WHAT IT READS IS OF BULK AT MOST 1048576: true; the input reads as it did. -/
def weakOfUptoRow : OpenClaim := { program := "ytjdkeicjhmdcfaa", sum := "45e8e22c4c2cab30d5a3cc716c5b3b03dde1d60fcf07f6368d27535c0ff7e702", func := "wharfinger/wharfingerlaw02.WeakOf", spec := "weakOf", apart := false, narrowed := true }
def WeakOfUptoSaid : Prop := weakOfUptoRow.holds Try.pinned (OpenSpec.upto weakOfSpec)

/-- 'wharfingerlaw02.WeakRolls', WHERE WHAT IT READS IS OF BULK AT MOST 1048576: true; the input reads as it did. -/
def weakRollsUptoRow : OpenClaim := { program := "ytjdkeicjhmdcfaa", sum := "45e8e22c4c2cab30d5a3cc716c5b3b03dde1d60fcf07f6368d27535c0ff7e702", func := "wharfinger/wharfingerlaw02.WeakRolls", spec := "weakRolls", apart := false, narrowed := true }
def WeakRollsUptoSaid : Prop := weakRollsUptoRow.holds Try.pinned (OpenSpec.upto weakRollsSpec)

/-- 'wharfingerlaw02.WeakShrinks', WHERE WHAT IT READS IS OF BULK AT MOST 1048576: true; the input reads as it did. -/
def weakShrinksUptoRow : OpenClaim := { program := "ytjdkeicjhmdcfaa", sum := "45e8e22c4c2cab30d5a3cc716c5b3b03dde1d60fcf07f6368d27535c0ff7e702", func := "wharfinger/wharfingerlaw02.WeakShrinks", spec := "weakShrinks", apart := false, narrowed := true }
def WeakShrinksUptoSaid : Prop := weakShrinksUptoRow.holds Try.pinned (OpenSpec.upto weakShrinksSpec)

/-- 'wharfingerlaw02.WeakJoins', WHERE WHAT IT READS IS OF BULK AT MOST 1048576: true; the input reads as it did. -/
def weakJoinsUptoRow : OpenClaim := { program := "ytjdkeicjhmdcfaa", sum := "45e8e22c4c2cab30d5a3cc716c5b3b03dde1d60fcf07f6368d27535c0ff7e702", func := "wharfinger/wharfingerlaw02.WeakJoins", spec := "weakJoins", apart := false, narrowed := true }
def WeakJoinsUptoSaid : Prop := weakJoinsUptoRow.holds Try.pinned (OpenSpec.upto weakJoinsSpec)

/-- 'wharfingerlaw02.WeakBytes', WHERE WHAT IT READS IS OF BULK AT MOST 1048576: true; the input reads as it did. -/
def weakBytesUptoRow : OpenClaim := { program := "ytjdkeicjhmdcfaa", sum := "45e8e22c4c2cab30d5a3cc716c5b3b03dde1d60fcf07f6368d27535c0ff7e702", func := "wharfinger/wharfingerlaw02.WeakBytes", spec := "weakBytes", apart := false, narrowed := true }
def WeakBytesUptoSaid : Prop := weakBytesUptoRow.holds Try.pinned (OpenSpec.upto weakBytesSpec)

/-- 'wharfingerlaw02.WeakRound', WHERE WHAT IT READS IS OF BULK AT MOST 1048576: true; the input reads as it did. -/
def weakRoundUptoRow : OpenClaim := { program := "ytjdkeicjhmdcfaa", sum := "45e8e22c4c2cab30d5a3cc716c5b3b03dde1d60fcf07f6368d27535c0ff7e702", func := "wharfinger/wharfingerlaw02.WeakRound", spec := "weakRound", apart := false, narrowed := true }
def WeakRoundUptoSaid : Prop := weakRoundUptoRow.holds Try.pinned (OpenSpec.upto weakRoundSpec)

/-- 'wharfingerlaw15.SlotPlays', WHERE WHAT IT READS IS OF BULK AT MOST 1048576: true; the input reads as it did. -/
def slotPlaysUptoRow : OpenClaim := { program := "ytjdkeicjhmdcfaa", sum := "45e8e22c4c2cab30d5a3cc716c5b3b03dde1d60fcf07f6368d27535c0ff7e702", func := "wharfinger/wharfingerlaw15.SlotPlays", spec := "slotPlays", apart := false, narrowed := true }
def SlotPlaysUptoSaid : Prop := slotPlaysUptoRow.holds Try.pinned (OpenSpec.upto slotPlaysSpec)

/-- 'wharfingerlaw15.SlotLimits', WHERE WHAT IT READS IS OF BULK AT MOST 1048576: true; the input reads as it did. -/
def slotLimitsUptoRow : OpenClaim := { program := "ytjdkeicjhmdcfaa", sum := "45e8e22c4c2cab30d5a3cc716c5b3b03dde1d60fcf07f6368d27535c0ff7e702", func := "wharfinger/wharfingerlaw15.SlotLimits", spec := "slotLimits", apart := false, narrowed := true }
def SlotLimitsUptoSaid : Prop := slotLimitsUptoRow.holds Try.pinned (OpenSpec.upto slotLimitsSpec)

end Rows
end Go.Proofs.Ytjdkeicjhmdcfaa
