/-
  NARROWER THAN 'FOR EVERY INPUT', by the rows' own cells (each row's printed sentence says how): EndsTell: loops · EndsMatch: loops · EndsSimple: loops · EndsBest: loops · EndsLonger: loops · EndsParts: loops · EndsStar: loops · SimplifyTells: loops · SimplifyAgain: loops · SimplifyKeeps: loops · SimplifyOne: loops · ExpandTells: loops · ExpandSame: loops · ExpandPlain: loops · ExpandBudget: loops · ExpandFirst: loops · MeasureTells: loops · MeasureKnows: loops · MeasureLengths: loops · MeasureParts: loops · MeasureRep: loops · DeriveTells: loops · DeriveLongest: loops · DeriveWords: loops · DeriveFirst: loops · DeriveSimple: loops.
  DERIVED. THE GIVEN ROWS OF THIS SEAT. 26 by the template 'for every input the law returns true; each argument reads behind the call as it read before'; 0 by the template 'total and deterministic' (their statements: YtcnlgmajkclgjaaTotals.lean).
  GIVEN WITH THE SEED: the statements are not yours to turn. If you find one false, say at which input.
  Laid BY PROGRAM, IN A SANDBOX (cutbox-rows.mjs): the forced cells as the released guide's own fill.sh prints them over the translation ff9fdc569d5c30da… (all of the seat's roots in one cut). By AI agents, Wed Nov 11 2026. No macro, syntax, notation, axiom, sorry.
-/
import Derived.Test.YtcnlgmajkclgjaaChecked
import GoSem.Claim
import GoSem.ClaimJoined
import GoSem.ClaimMapViews
import Derived.JoinedTies
import Derived.KernelRfl
namespace Go.Proofs.Ytcnlgmajkclgjaa
/- THE CELL 'sum', in the pinned program and in every row, IS THE sha256 OF THE DUMP (.gsa) THAT YtcnlgmajkclgjaaProg.lean LOADS. Nothing in Lean hashes anything: it is a label: what it is worth is what the hold of that sum in a sandbox is worth. -/
noncomputable def Try.pinned : Pinned := { name := "ytcnlgmajkclgjaa", sum := "ff9fdc569d5c30da99c172d864a6fdf61b7e537a6916b0c82b2efa15d795bd07", checked := Try.checked }
namespace Rows
def none {H : Type} : Left H := { results := [], args := [] }

/-- 'sievelaw11.EndsTell': WHATEVER THE INPUT: true; the input reads as it did. -/
def endsTellSpec : ChangeSpec := { name := "endsTell", fn := fun _ => fun
  | [d1, d2, d3] => { results := [.lit (.bool true)], args := [d1, d2, d3] }
  | _ => none }
def endsTellRow : OpenClaim := { program := "ytcnlgmajkclgjaa", sum := "ff9fdc569d5c30da99c172d864a6fdf61b7e537a6916b0c82b2efa15d795bd07", func := "sieve/sievelaw11.EndsTell", spec := "endsTell", inPlace := ["internal/bytealg.IndexByteString"], unfollowed := true, recurses := true, loops := true, plainKeys := false, apart := false }
def EndsTellSaid : Prop := endsTellRow.holds Try.pinned (OpenSpec.ofChange endsTellSpec)

/-- ITS FALSE NEIGHBOUR: 'it returns false'. Refute it at one input. -/
def endsTellWrong : ChangeSpec := { name := "endsTell", fn := fun _ => fun
  | [d1, d2, d3] => { results := [.lit (.bool false)], args := [d1, d2, d3] }
  | _ => none }
def EndsTellWrongFalsely : Prop := endsTellRow.holds Try.pinned (OpenSpec.ofChange endsTellWrong)

/-- 'sievelaw11.EndsMatch': WHATEVER THE INPUT: true; the input reads as it did. -/
def endsMatchSpec : ChangeSpec := { name := "endsMatch", fn := fun _ => fun
  | [d1, d2] => { results := [.lit (.bool true)], args := [d1, d2] }
  | _ => none }
def endsMatchRow : OpenClaim := { program := "ytcnlgmajkclgjaa", sum := "ff9fdc569d5c30da99c172d864a6fdf61b7e537a6916b0c82b2efa15d795bd07", func := "sieve/sievelaw11.EndsMatch", spec := "endsMatch", inPlace := ["internal/bytealg.IndexByteString"], unfollowed := true, recurses := true, loops := true, plainKeys := false, apart := false }
def EndsMatchSaid : Prop := endsMatchRow.holds Try.pinned (OpenSpec.ofChange endsMatchSpec)

/-- ITS FALSE NEIGHBOUR: 'it returns false'. Refute it at one input. -/
def endsMatchWrong : ChangeSpec := { name := "endsMatch", fn := fun _ => fun
  | [d1, d2] => { results := [.lit (.bool false)], args := [d1, d2] }
  | _ => none }
def EndsMatchWrongFalsely : Prop := endsMatchRow.holds Try.pinned (OpenSpec.ofChange endsMatchWrong)

/-- 'sievelaw11.EndsSimple': WHATEVER THE INPUT: true; the input reads as it did. -/
def endsSimpleSpec : ChangeSpec := { name := "endsSimple", fn := fun _ => fun
  | [d1, d2] => { results := [.lit (.bool true)], args := [d1, d2] }
  | _ => none }
def endsSimpleRow : OpenClaim := { program := "ytcnlgmajkclgjaa", sum := "ff9fdc569d5c30da99c172d864a6fdf61b7e537a6916b0c82b2efa15d795bd07", func := "sieve/sievelaw11.EndsSimple", spec := "endsSimple", inPlace := ["internal/bytealg.IndexByteString"], unfollowed := true, recurses := true, loops := true, plainKeys := false, apart := false }
def EndsSimpleSaid : Prop := endsSimpleRow.holds Try.pinned (OpenSpec.ofChange endsSimpleSpec)

/-- ITS FALSE NEIGHBOUR: 'it returns false'. Refute it at one input. -/
def endsSimpleWrong : ChangeSpec := { name := "endsSimple", fn := fun _ => fun
  | [d1, d2] => { results := [.lit (.bool false)], args := [d1, d2] }
  | _ => none }
def EndsSimpleWrongFalsely : Prop := endsSimpleRow.holds Try.pinned (OpenSpec.ofChange endsSimpleWrong)

/-- 'sievelaw11.EndsBest': WHATEVER THE INPUT: true; the input reads as it did. -/
def endsBestSpec : ChangeSpec := { name := "endsBest", fn := fun _ => fun
  | [d1, d2, d3, d4] => { results := [.lit (.bool true)], args := [d1, d2, d3, d4] }
  | _ => none }
def endsBestRow : OpenClaim := { program := "ytcnlgmajkclgjaa", sum := "ff9fdc569d5c30da99c172d864a6fdf61b7e537a6916b0c82b2efa15d795bd07", func := "sieve/sievelaw11.EndsBest", spec := "endsBest", inPlace := ["internal/bytealg.IndexByteString"], unfollowed := true, recurses := true, loops := true, plainKeys := false, apart := false }
def EndsBestSaid : Prop := endsBestRow.holds Try.pinned (OpenSpec.ofChange endsBestSpec)

/-- ITS FALSE NEIGHBOUR: 'it returns false'. Refute it at one input. -/
def endsBestWrong : ChangeSpec := { name := "endsBest", fn := fun _ => fun
  | [d1, d2, d3, d4] => { results := [.lit (.bool false)], args := [d1, d2, d3, d4] }
  | _ => none }
def EndsBestWrongFalsely : Prop := endsBestRow.holds Try.pinned (OpenSpec.ofChange endsBestWrong)

/-- 'sievelaw11.EndsLonger': WHATEVER THE INPUT: true; the input reads as it did. -/
def endsLongerSpec : ChangeSpec := { name := "endsLonger", fn := fun _ => fun
  | [d1, d2, d3, d4] => { results := [.lit (.bool true)], args := [d1, d2, d3, d4] }
  | _ => none }
def endsLongerRow : OpenClaim := { program := "ytcnlgmajkclgjaa", sum := "ff9fdc569d5c30da99c172d864a6fdf61b7e537a6916b0c82b2efa15d795bd07", func := "sieve/sievelaw11.EndsLonger", spec := "endsLonger", inPlace := ["internal/bytealg.IndexByteString"], unfollowed := true, recurses := true, loops := true, plainKeys := false, apart := false }
def EndsLongerSaid : Prop := endsLongerRow.holds Try.pinned (OpenSpec.ofChange endsLongerSpec)

/-- ITS FALSE NEIGHBOUR: 'it returns false'. Refute it at one input. -/
def endsLongerWrong : ChangeSpec := { name := "endsLonger", fn := fun _ => fun
  | [d1, d2, d3, d4] => { results := [.lit (.bool false)], args := [d1, d2, d3, d4] }
  | _ => none }
def EndsLongerWrongFalsely : Prop := endsLongerRow.holds Try.pinned (OpenSpec.ofChange endsLongerWrong)

/-- 'sievelaw11.EndsParts': WHATEVER THE INPUT: true; the input reads as it did. -/
def endsPartsSpec : ChangeSpec := { name := "endsParts", fn := fun _ => fun
  | [d1, d2, d3, d4] => { results := [.lit (.bool true)], args := [d1, d2, d3, d4] }
  | _ => none }
def endsPartsRow : OpenClaim := { program := "ytcnlgmajkclgjaa", sum := "ff9fdc569d5c30da99c172d864a6fdf61b7e537a6916b0c82b2efa15d795bd07", func := "sieve/sievelaw11.EndsParts", spec := "endsParts", inPlace := ["internal/bytealg.IndexByteString"], unfollowed := true, recurses := true, loops := true, plainKeys := false, apart := false }
def EndsPartsSaid : Prop := endsPartsRow.holds Try.pinned (OpenSpec.ofChange endsPartsSpec)

/-- ITS FALSE NEIGHBOUR: 'it returns false'. Refute it at one input. -/
def endsPartsWrong : ChangeSpec := { name := "endsParts", fn := fun _ => fun
  | [d1, d2, d3, d4] => { results := [.lit (.bool false)], args := [d1, d2, d3, d4] }
  | _ => none }
def EndsPartsWrongFalsely : Prop := endsPartsRow.holds Try.pinned (OpenSpec.ofChange endsPartsWrong)

/-- 'sievelaw11.EndsStar': WHATEVER THE INPUT: true; the input reads as it did. -/
def endsStarSpec : ChangeSpec := { name := "endsStar", fn := fun _ => fun
  | [d1, d2] => { results := [.lit (.bool true)], args := [d1, d2] }
  | _ => none }
def endsStarRow : OpenClaim := { program := "ytcnlgmajkclgjaa", sum := "ff9fdc569d5c30da99c172d864a6fdf61b7e537a6916b0c82b2efa15d795bd07", func := "sieve/sievelaw11.EndsStar", spec := "endsStar", inPlace := ["internal/bytealg.IndexByteString"], unfollowed := true, recurses := true, loops := true, plainKeys := false, apart := false }
def EndsStarSaid : Prop := endsStarRow.holds Try.pinned (OpenSpec.ofChange endsStarSpec)

/-- ITS FALSE NEIGHBOUR: 'it returns false'. Refute it at one input. -/
def endsStarWrong : ChangeSpec := { name := "endsStar", fn := fun _ => fun
  | [d1, d2] => { results := [.lit (.bool false)], args := [d1, d2] }
  | _ => none }
def EndsStarWrongFalsely : Prop := endsStarRow.holds Try.pinned (OpenSpec.ofChange endsStarWrong)

/-- 'sievelaw10.SimplifyTells': WHATEVER THE INPUT: true; the input reads as it did. -/
def simplifyTellsSpec : ChangeSpec := { name := "simplifyTells", fn := fun _ => fun
  | [d] => { results := [.lit (.bool true)], args := [d] }
  | _ => none }
def simplifyTellsRow : OpenClaim := { program := "ytcnlgmajkclgjaa", sum := "ff9fdc569d5c30da99c172d864a6fdf61b7e537a6916b0c82b2efa15d795bd07", func := "sieve/sievelaw10.SimplifyTells", spec := "simplifyTells", inPlace := ["internal/bytealg.IndexByteString"], unfollowed := true, recurses := true, loops := true, plainKeys := false, apart := false }
def SimplifyTellsSaid : Prop := simplifyTellsRow.holds Try.pinned (OpenSpec.ofChange simplifyTellsSpec)

/-- ITS FALSE NEIGHBOUR: 'it returns false'. Refute it at one input. -/
def simplifyTellsWrong : ChangeSpec := { name := "simplifyTells", fn := fun _ => fun
  | [d] => { results := [.lit (.bool false)], args := [d] }
  | _ => none }
def SimplifyTellsWrongFalsely : Prop := simplifyTellsRow.holds Try.pinned (OpenSpec.ofChange simplifyTellsWrong)

/-- 'sievelaw10.SimplifyAgain': WHATEVER THE INPUT: true; the input reads as it did. -/
def simplifyAgainSpec : ChangeSpec := { name := "simplifyAgain", fn := fun _ => fun
  | [d] => { results := [.lit (.bool true)], args := [d] }
  | _ => none }
def simplifyAgainRow : OpenClaim := { program := "ytcnlgmajkclgjaa", sum := "ff9fdc569d5c30da99c172d864a6fdf61b7e537a6916b0c82b2efa15d795bd07", func := "sieve/sievelaw10.SimplifyAgain", spec := "simplifyAgain", inPlace := ["internal/bytealg.IndexByteString"], unfollowed := true, recurses := true, loops := true, plainKeys := false, apart := false }
def SimplifyAgainSaid : Prop := simplifyAgainRow.holds Try.pinned (OpenSpec.ofChange simplifyAgainSpec)

/-- ITS FALSE NEIGHBOUR: 'it returns false'. Refute it at one input. -/
def simplifyAgainWrong : ChangeSpec := { name := "simplifyAgain", fn := fun _ => fun
  | [d] => { results := [.lit (.bool false)], args := [d] }
  | _ => none }
def SimplifyAgainWrongFalsely : Prop := simplifyAgainRow.holds Try.pinned (OpenSpec.ofChange simplifyAgainWrong)

/-- 'sievelaw10.SimplifyKeeps': WHATEVER THE INPUT: true; the input reads as it did. -/
def simplifyKeepsSpec : ChangeSpec := { name := "simplifyKeeps", fn := fun _ => fun
  | [d] => { results := [.lit (.bool true)], args := [d] }
  | _ => none }
def simplifyKeepsRow : OpenClaim := { program := "ytcnlgmajkclgjaa", sum := "ff9fdc569d5c30da99c172d864a6fdf61b7e537a6916b0c82b2efa15d795bd07", func := "sieve/sievelaw10.SimplifyKeeps", spec := "simplifyKeeps", inPlace := ["internal/bytealg.IndexByteString"], unfollowed := true, recurses := true, loops := true, plainKeys := false, apart := false }
def SimplifyKeepsSaid : Prop := simplifyKeepsRow.holds Try.pinned (OpenSpec.ofChange simplifyKeepsSpec)

/-- ITS FALSE NEIGHBOUR: 'it returns false'. Refute it at one input. -/
def simplifyKeepsWrong : ChangeSpec := { name := "simplifyKeeps", fn := fun _ => fun
  | [d] => { results := [.lit (.bool false)], args := [d] }
  | _ => none }
def SimplifyKeepsWrongFalsely : Prop := simplifyKeepsRow.holds Try.pinned (OpenSpec.ofChange simplifyKeepsWrong)

/-- 'sievelaw10.SimplifyOne': WHATEVER THE INPUT: true; the input reads as it did. -/
def simplifyOneSpec : ChangeSpec := { name := "simplifyOne", fn := fun _ => fun
  | [d] => { results := [.lit (.bool true)], args := [d] }
  | _ => none }
def simplifyOneRow : OpenClaim := { program := "ytcnlgmajkclgjaa", sum := "ff9fdc569d5c30da99c172d864a6fdf61b7e537a6916b0c82b2efa15d795bd07", func := "sieve/sievelaw10.SimplifyOne", spec := "simplifyOne", inPlace := ["internal/bytealg.IndexByteString"], unfollowed := true, recurses := true, loops := true, plainKeys := false, apart := false }
def SimplifyOneSaid : Prop := simplifyOneRow.holds Try.pinned (OpenSpec.ofChange simplifyOneSpec)

/-- ITS FALSE NEIGHBOUR: 'it returns false'. Refute it at one input. -/
def simplifyOneWrong : ChangeSpec := { name := "simplifyOne", fn := fun _ => fun
  | [d] => { results := [.lit (.bool false)], args := [d] }
  | _ => none }
def SimplifyOneWrongFalsely : Prop := simplifyOneRow.holds Try.pinned (OpenSpec.ofChange simplifyOneWrong)

/-- 'sievelaw13.ExpandTells': WHATEVER THE INPUT: true; the input reads as it did. -/
def expandTellsSpec : ChangeSpec := { name := "expandTells", fn := fun _ => fun
  | [d1, d2] => { results := [.lit (.bool true)], args := [d1, d2] }
  | _ => none }
def expandTellsRow : OpenClaim := { program := "ytcnlgmajkclgjaa", sum := "ff9fdc569d5c30da99c172d864a6fdf61b7e537a6916b0c82b2efa15d795bd07", func := "sieve/sievelaw13.ExpandTells", spec := "expandTells", inPlace := ["internal/bytealg.IndexByteString"], unfollowed := true, recurses := true, loops := true, plainKeys := false, apart := false }
def ExpandTellsSaid : Prop := expandTellsRow.holds Try.pinned (OpenSpec.ofChange expandTellsSpec)

/-- ITS FALSE NEIGHBOUR: 'it returns false'. Refute it at one input. -/
def expandTellsWrong : ChangeSpec := { name := "expandTells", fn := fun _ => fun
  | [d1, d2] => { results := [.lit (.bool false)], args := [d1, d2] }
  | _ => none }
def ExpandTellsWrongFalsely : Prop := expandTellsRow.holds Try.pinned (OpenSpec.ofChange expandTellsWrong)

/-- 'sievelaw13.ExpandSame': WHATEVER THE INPUT: true; the input reads as it did. -/
def expandSameSpec : ChangeSpec := { name := "expandSame", fn := fun _ => fun
  | [d1, d2] => { results := [.lit (.bool true)], args := [d1, d2] }
  | _ => none }
def expandSameRow : OpenClaim := { program := "ytcnlgmajkclgjaa", sum := "ff9fdc569d5c30da99c172d864a6fdf61b7e537a6916b0c82b2efa15d795bd07", func := "sieve/sievelaw13.ExpandSame", spec := "expandSame", inPlace := ["internal/bytealg.IndexByteString"], unfollowed := true, recurses := true, loops := true, plainKeys := false, apart := false }
def ExpandSameSaid : Prop := expandSameRow.holds Try.pinned (OpenSpec.ofChange expandSameSpec)

/-- ITS FALSE NEIGHBOUR: 'it returns false'. Refute it at one input. -/
def expandSameWrong : ChangeSpec := { name := "expandSame", fn := fun _ => fun
  | [d1, d2] => { results := [.lit (.bool false)], args := [d1, d2] }
  | _ => none }
def ExpandSameWrongFalsely : Prop := expandSameRow.holds Try.pinned (OpenSpec.ofChange expandSameWrong)

/-- 'sievelaw13.ExpandPlain': WHATEVER THE INPUT: true; the input reads as it did. -/
def expandPlainSpec : ChangeSpec := { name := "expandPlain", fn := fun _ => fun
  | [d] => { results := [.lit (.bool true)], args := [d] }
  | _ => none }
def expandPlainRow : OpenClaim := { program := "ytcnlgmajkclgjaa", sum := "ff9fdc569d5c30da99c172d864a6fdf61b7e537a6916b0c82b2efa15d795bd07", func := "sieve/sievelaw13.ExpandPlain", spec := "expandPlain", inPlace := ["internal/bytealg.IndexByteString"], unfollowed := true, recurses := true, loops := true, plainKeys := false, apart := false }
def ExpandPlainSaid : Prop := expandPlainRow.holds Try.pinned (OpenSpec.ofChange expandPlainSpec)

/-- ITS FALSE NEIGHBOUR: 'it returns false'. Refute it at one input. -/
def expandPlainWrong : ChangeSpec := { name := "expandPlain", fn := fun _ => fun
  | [d] => { results := [.lit (.bool false)], args := [d] }
  | _ => none }
def ExpandPlainWrongFalsely : Prop := expandPlainRow.holds Try.pinned (OpenSpec.ofChange expandPlainWrong)

/-- 'sievelaw13.ExpandBudget': WHATEVER THE INPUT: true; the input reads as it did. -/
def expandBudgetSpec : ChangeSpec := { name := "expandBudget", fn := fun _ => fun
  | [d] => { results := [.lit (.bool true)], args := [d] }
  | _ => none }
def expandBudgetRow : OpenClaim := { program := "ytcnlgmajkclgjaa", sum := "ff9fdc569d5c30da99c172d864a6fdf61b7e537a6916b0c82b2efa15d795bd07", func := "sieve/sievelaw13.ExpandBudget", spec := "expandBudget", inPlace := ["internal/bytealg.IndexByteString"], unfollowed := true, recurses := true, loops := true, plainKeys := false, apart := false }
def ExpandBudgetSaid : Prop := expandBudgetRow.holds Try.pinned (OpenSpec.ofChange expandBudgetSpec)

/-- ITS FALSE NEIGHBOUR: 'it returns false'. Refute it at one input. -/
def expandBudgetWrong : ChangeSpec := { name := "expandBudget", fn := fun _ => fun
  | [d] => { results := [.lit (.bool false)], args := [d] }
  | _ => none }
def ExpandBudgetWrongFalsely : Prop := expandBudgetRow.holds Try.pinned (OpenSpec.ofChange expandBudgetWrong)

/-- 'sievelaw13.ExpandFirst': WHATEVER THE INPUT: true; the input reads as it did. -/
def expandFirstSpec : ChangeSpec := { name := "expandFirst", fn := fun _ => fun
  | [d] => { results := [.lit (.bool true)], args := [d] }
  | _ => none }
def expandFirstRow : OpenClaim := { program := "ytcnlgmajkclgjaa", sum := "ff9fdc569d5c30da99c172d864a6fdf61b7e537a6916b0c82b2efa15d795bd07", func := "sieve/sievelaw13.ExpandFirst", spec := "expandFirst", inPlace := ["internal/bytealg.IndexByteString"], unfollowed := true, recurses := true, loops := true, plainKeys := false, apart := false }
def ExpandFirstSaid : Prop := expandFirstRow.holds Try.pinned (OpenSpec.ofChange expandFirstSpec)

/-- ITS FALSE NEIGHBOUR: 'it returns false'. Refute it at one input. -/
def expandFirstWrong : ChangeSpec := { name := "expandFirst", fn := fun _ => fun
  | [d] => { results := [.lit (.bool false)], args := [d] }
  | _ => none }
def ExpandFirstWrongFalsely : Prop := expandFirstRow.holds Try.pinned (OpenSpec.ofChange expandFirstWrong)

/-- 'sievelaw09.MeasureTells': WHATEVER THE INPUT: true; the input reads as it did. -/
def measureTellsSpec : ChangeSpec := { name := "measureTells", fn := fun _ => fun
  | [d] => { results := [.lit (.bool true)], args := [d] }
  | _ => none }
def measureTellsRow : OpenClaim := { program := "ytcnlgmajkclgjaa", sum := "ff9fdc569d5c30da99c172d864a6fdf61b7e537a6916b0c82b2efa15d795bd07", func := "sieve/sievelaw09.MeasureTells", spec := "measureTells", inPlace := ["internal/bytealg.IndexByteString"], unfollowed := true, recurses := true, loops := true, plainKeys := false, apart := false }
def MeasureTellsSaid : Prop := measureTellsRow.holds Try.pinned (OpenSpec.ofChange measureTellsSpec)

/-- ITS FALSE NEIGHBOUR: 'it returns false'. Refute it at one input. -/
def measureTellsWrong : ChangeSpec := { name := "measureTells", fn := fun _ => fun
  | [d] => { results := [.lit (.bool false)], args := [d] }
  | _ => none }
def MeasureTellsWrongFalsely : Prop := measureTellsRow.holds Try.pinned (OpenSpec.ofChange measureTellsWrong)

/-- 'sievelaw09.MeasureKnows': WHATEVER THE INPUT: true; the input reads as it did. -/
def measureKnowsSpec : ChangeSpec := { name := "measureKnows", fn := fun _ => fun
  | [d] => { results := [.lit (.bool true)], args := [d] }
  | _ => none }
def measureKnowsRow : OpenClaim := { program := "ytcnlgmajkclgjaa", sum := "ff9fdc569d5c30da99c172d864a6fdf61b7e537a6916b0c82b2efa15d795bd07", func := "sieve/sievelaw09.MeasureKnows", spec := "measureKnows", inPlace := ["internal/bytealg.IndexByteString"], unfollowed := true, recurses := true, loops := true, plainKeys := false, apart := false }
def MeasureKnowsSaid : Prop := measureKnowsRow.holds Try.pinned (OpenSpec.ofChange measureKnowsSpec)

/-- ITS FALSE NEIGHBOUR: 'it returns false'. Refute it at one input. -/
def measureKnowsWrong : ChangeSpec := { name := "measureKnows", fn := fun _ => fun
  | [d] => { results := [.lit (.bool false)], args := [d] }
  | _ => none }
def MeasureKnowsWrongFalsely : Prop := measureKnowsRow.holds Try.pinned (OpenSpec.ofChange measureKnowsWrong)

/-- 'sievelaw09.MeasureLengths': WHATEVER THE INPUT: true; the input reads as it did. -/
def measureLengthsSpec : ChangeSpec := { name := "measureLengths", fn := fun _ => fun
  | [d1, d2] => { results := [.lit (.bool true)], args := [d1, d2] }
  | _ => none }
def measureLengthsRow : OpenClaim := { program := "ytcnlgmajkclgjaa", sum := "ff9fdc569d5c30da99c172d864a6fdf61b7e537a6916b0c82b2efa15d795bd07", func := "sieve/sievelaw09.MeasureLengths", spec := "measureLengths", inPlace := ["internal/bytealg.IndexByteString"], unfollowed := true, recurses := true, loops := true, plainKeys := false, apart := false }
def MeasureLengthsSaid : Prop := measureLengthsRow.holds Try.pinned (OpenSpec.ofChange measureLengthsSpec)

/-- ITS FALSE NEIGHBOUR: 'it returns false'. Refute it at one input. -/
def measureLengthsWrong : ChangeSpec := { name := "measureLengths", fn := fun _ => fun
  | [d1, d2] => { results := [.lit (.bool false)], args := [d1, d2] }
  | _ => none }
def MeasureLengthsWrongFalsely : Prop := measureLengthsRow.holds Try.pinned (OpenSpec.ofChange measureLengthsWrong)

/-- 'sievelaw09.MeasureParts': WHATEVER THE INPUT: true; the input reads as it did. -/
def measurePartsSpec : ChangeSpec := { name := "measureParts", fn := fun _ => fun
  | [d1, d2] => { results := [.lit (.bool true)], args := [d1, d2] }
  | _ => none }
def measurePartsRow : OpenClaim := { program := "ytcnlgmajkclgjaa", sum := "ff9fdc569d5c30da99c172d864a6fdf61b7e537a6916b0c82b2efa15d795bd07", func := "sieve/sievelaw09.MeasureParts", spec := "measureParts", inPlace := ["internal/bytealg.IndexByteString"], unfollowed := true, recurses := true, loops := true, plainKeys := false, apart := false }
def MeasurePartsSaid : Prop := measurePartsRow.holds Try.pinned (OpenSpec.ofChange measurePartsSpec)

/-- ITS FALSE NEIGHBOUR: 'it returns false'. Refute it at one input. -/
def measurePartsWrong : ChangeSpec := { name := "measureParts", fn := fun _ => fun
  | [d1, d2] => { results := [.lit (.bool false)], args := [d1, d2] }
  | _ => none }
def MeasurePartsWrongFalsely : Prop := measurePartsRow.holds Try.pinned (OpenSpec.ofChange measurePartsWrong)

/-- 'sievelaw09.MeasureRep': WHATEVER THE INPUT: true; the input reads as it did. -/
def measureRepSpec : ChangeSpec := { name := "measureRep", fn := fun _ => fun
  | [d1, d2, d3] => { results := [.lit (.bool true)], args := [d1, d2, d3] }
  | _ => none }
def measureRepRow : OpenClaim := { program := "ytcnlgmajkclgjaa", sum := "ff9fdc569d5c30da99c172d864a6fdf61b7e537a6916b0c82b2efa15d795bd07", func := "sieve/sievelaw09.MeasureRep", spec := "measureRep", inPlace := ["internal/bytealg.IndexByteString"], unfollowed := true, recurses := true, loops := true, plainKeys := false, apart := false }
def MeasureRepSaid : Prop := measureRepRow.holds Try.pinned (OpenSpec.ofChange measureRepSpec)

/-- ITS FALSE NEIGHBOUR: 'it returns false'. Refute it at one input. -/
def measureRepWrong : ChangeSpec := { name := "measureRep", fn := fun _ => fun
  | [d1, d2, d3] => { results := [.lit (.bool false)], args := [d1, d2, d3] }
  | _ => none }
def MeasureRepWrongFalsely : Prop := measureRepRow.holds Try.pinned (OpenSpec.ofChange measureRepWrong)

/-- 'sievelaw12.DeriveTells': WHATEVER THE INPUT: true; the input reads as it did. -/
def deriveTellsSpec : ChangeSpec := { name := "deriveTells", fn := fun _ => fun
  | [d1, d2, d3] => { results := [.lit (.bool true)], args := [d1, d2, d3] }
  | _ => none }
def deriveTellsRow : OpenClaim := { program := "ytcnlgmajkclgjaa", sum := "ff9fdc569d5c30da99c172d864a6fdf61b7e537a6916b0c82b2efa15d795bd07", func := "sieve/sievelaw12.DeriveTells", spec := "deriveTells", inPlace := ["internal/bytealg.IndexByteString"], unfollowed := true, recurses := true, loops := true, plainKeys := false, apart := false }
def DeriveTellsSaid : Prop := deriveTellsRow.holds Try.pinned (OpenSpec.ofChange deriveTellsSpec)

/-- ITS FALSE NEIGHBOUR: 'it returns false'. Refute it at one input. -/
def deriveTellsWrong : ChangeSpec := { name := "deriveTells", fn := fun _ => fun
  | [d1, d2, d3] => { results := [.lit (.bool false)], args := [d1, d2, d3] }
  | _ => none }
def DeriveTellsWrongFalsely : Prop := deriveTellsRow.holds Try.pinned (OpenSpec.ofChange deriveTellsWrong)

/-- 'sievelaw12.DeriveLongest': WHATEVER THE INPUT: true; the input reads as it did. -/
def deriveLongestSpec : ChangeSpec := { name := "deriveLongest", fn := fun _ => fun
  | [d1, d2, d3] => { results := [.lit (.bool true)], args := [d1, d2, d3] }
  | _ => none }
def deriveLongestRow : OpenClaim := { program := "ytcnlgmajkclgjaa", sum := "ff9fdc569d5c30da99c172d864a6fdf61b7e537a6916b0c82b2efa15d795bd07", func := "sieve/sievelaw12.DeriveLongest", spec := "deriveLongest", inPlace := ["internal/bytealg.IndexByteString"], unfollowed := true, recurses := true, loops := true, plainKeys := false, apart := false }
def DeriveLongestSaid : Prop := deriveLongestRow.holds Try.pinned (OpenSpec.ofChange deriveLongestSpec)

/-- ITS FALSE NEIGHBOUR: 'it returns false'. Refute it at one input. -/
def deriveLongestWrong : ChangeSpec := { name := "deriveLongest", fn := fun _ => fun
  | [d1, d2, d3] => { results := [.lit (.bool false)], args := [d1, d2, d3] }
  | _ => none }
def DeriveLongestWrongFalsely : Prop := deriveLongestRow.holds Try.pinned (OpenSpec.ofChange deriveLongestWrong)

/-- 'sievelaw12.DeriveWords': WHATEVER THE INPUT: true; the input reads as it did. -/
def deriveWordsSpec : ChangeSpec := { name := "deriveWords", fn := fun _ => fun
  | [d1, d2, d3] => { results := [.lit (.bool true)], args := [d1, d2, d3] }
  | _ => none }
def deriveWordsRow : OpenClaim := { program := "ytcnlgmajkclgjaa", sum := "ff9fdc569d5c30da99c172d864a6fdf61b7e537a6916b0c82b2efa15d795bd07", func := "sieve/sievelaw12.DeriveWords", spec := "deriveWords", inPlace := ["internal/bytealg.IndexByteString"], unfollowed := true, recurses := true, loops := true, plainKeys := false, apart := false }
def DeriveWordsSaid : Prop := deriveWordsRow.holds Try.pinned (OpenSpec.ofChange deriveWordsSpec)

/-- ITS FALSE NEIGHBOUR: 'it returns false'. Refute it at one input. -/
def deriveWordsWrong : ChangeSpec := { name := "deriveWords", fn := fun _ => fun
  | [d1, d2, d3] => { results := [.lit (.bool false)], args := [d1, d2, d3] }
  | _ => none }
def DeriveWordsWrongFalsely : Prop := deriveWordsRow.holds Try.pinned (OpenSpec.ofChange deriveWordsWrong)

/-- 'sievelaw12.DeriveFirst': WHATEVER THE INPUT: true; the input reads as it did. -/
def deriveFirstSpec : ChangeSpec := { name := "deriveFirst", fn := fun _ => fun
  | [d1, d2] => { results := [.lit (.bool true)], args := [d1, d2] }
  | _ => none }
def deriveFirstRow : OpenClaim := { program := "ytcnlgmajkclgjaa", sum := "ff9fdc569d5c30da99c172d864a6fdf61b7e537a6916b0c82b2efa15d795bd07", func := "sieve/sievelaw12.DeriveFirst", spec := "deriveFirst", inPlace := ["internal/bytealg.IndexByteString"], unfollowed := true, recurses := true, loops := true, plainKeys := false, apart := false }
def DeriveFirstSaid : Prop := deriveFirstRow.holds Try.pinned (OpenSpec.ofChange deriveFirstSpec)

/-- ITS FALSE NEIGHBOUR: 'it returns false'. Refute it at one input. -/
def deriveFirstWrong : ChangeSpec := { name := "deriveFirst", fn := fun _ => fun
  | [d1, d2] => { results := [.lit (.bool false)], args := [d1, d2] }
  | _ => none }
def DeriveFirstWrongFalsely : Prop := deriveFirstRow.holds Try.pinned (OpenSpec.ofChange deriveFirstWrong)

/-- 'sievelaw12.DeriveSimple': WHATEVER THE INPUT: true; the input reads as it did. -/
def deriveSimpleSpec : ChangeSpec := { name := "deriveSimple", fn := fun _ => fun
  | [d1, d2, d3] => { results := [.lit (.bool true)], args := [d1, d2, d3] }
  | _ => none }
def deriveSimpleRow : OpenClaim := { program := "ytcnlgmajkclgjaa", sum := "ff9fdc569d5c30da99c172d864a6fdf61b7e537a6916b0c82b2efa15d795bd07", func := "sieve/sievelaw12.DeriveSimple", spec := "deriveSimple", inPlace := ["internal/bytealg.IndexByteString"], unfollowed := true, recurses := true, loops := true, plainKeys := false, apart := false }
def DeriveSimpleSaid : Prop := deriveSimpleRow.holds Try.pinned (OpenSpec.ofChange deriveSimpleSpec)

/-- ITS FALSE NEIGHBOUR: 'it returns false'. Refute it at one input. -/
def deriveSimpleWrong : ChangeSpec := { name := "deriveSimple", fn := fun _ => fun
  | [d1, d2, d3] => { results := [.lit (.bool false)], args := [d1, d2, d3] }
  | _ => none }
def DeriveSimpleWrongFalsely : Prop := deriveSimpleRow.holds Try.pinned (OpenSpec.ofChange deriveSimpleWrong)

/- THE SECOND FORM. 'bulk': how many values and letters a reading holds, each counted each time it is reached (what is shared counts as often as it is met; a slice's spare places count too). A statement '..UptoSaid' is the law's where the arguments, and the package variables that the reading takes, are together of bulk at most 1048576: NARROWER than '..Said'. Prove '..Said' where nothing that the law and all that it calls make is longer than what came in: it says more and counts as full. Else prove '..UptoSaid'. A law counts once. -/
mutual
def uptoBulk {H : Type} : DataW H → Nat
  | .lit (.string bytes) => bytes.length + 1
  | .lit _ => 1
  | .nil => 1
  | .ptr d => uptoBulk d + 1
  | .slice elems spare => uptoBulkAll elems + uptoBulkAll spare + 1
  | .agg parts => uptoBulkAll parts + 1
  | .iface _ d => uptoBulk d + 1
  | .map entries => uptoBulkEntries entries + 1
  | .held _ => 1
def uptoBulkAll {H : Type} : List (DataW H) → Nat
  | [] => 0
  | d :: r => uptoBulk d + uptoBulkAll r
def uptoBulkEntries {H : Type} : List (Lit × DataW H) → Nat
  | [] => 0
  | x :: r => uptoBulkEntry x + uptoBulkEntries r
def uptoBulkEntry {H : Type} : Lit × DataW H → Nat
  | (.string bytes, d) => bytes.length + uptoBulk d + 1
  | (_, d) => uptoBulk d + 1
 end
def uptoSmall : (H : Type) → List (DataW H) → Bool := fun _ ds => decide (uptoBulkAll ds ≤ 1048576)
def OpenSpec.upto (s : _root_.Go.ChangeSpec) : _root_.Go.OpenSpec := { _root_.Go.OpenSpec.ofChange s with cond := some uptoSmall }

/-- 'sievelaw11.EndsTell', WHERE WHAT IT READS IS OF BULK AT MOST 1048576: true; the input reads as it did. -/
def endsTellUptoRow : OpenClaim := { program := "ytcnlgmajkclgjaa", sum := "ff9fdc569d5c30da99c172d864a6fdf61b7e537a6916b0c82b2efa15d795bd07", func := "sieve/sievelaw11.EndsTell", spec := "endsTell", inPlace := ["internal/bytealg.IndexByteString"], unfollowed := true, recurses := true, loops := true, plainKeys := false, apart := false, narrowed := true }
def EndsTellUptoSaid : Prop := endsTellUptoRow.holds Try.pinned (OpenSpec.upto endsTellSpec)

/-- 'sievelaw11.EndsMatch', WHERE WHAT IT READS IS OF BULK AT MOST 1048576: true; the input reads as it did. -/
def endsMatchUptoRow : OpenClaim := { program := "ytcnlgmajkclgjaa", sum := "ff9fdc569d5c30da99c172d864a6fdf61b7e537a6916b0c82b2efa15d795bd07", func := "sieve/sievelaw11.EndsMatch", spec := "endsMatch", inPlace := ["internal/bytealg.IndexByteString"], unfollowed := true, recurses := true, loops := true, plainKeys := false, apart := false, narrowed := true }
def EndsMatchUptoSaid : Prop := endsMatchUptoRow.holds Try.pinned (OpenSpec.upto endsMatchSpec)

/-- 'sievelaw11.EndsSimple', WHERE WHAT IT READS IS OF BULK AT MOST 1048576: true; the input reads as it did. -/
def endsSimpleUptoRow : OpenClaim := { program := "ytcnlgmajkclgjaa", sum := "ff9fdc569d5c30da99c172d864a6fdf61b7e537a6916b0c82b2efa15d795bd07", func := "sieve/sievelaw11.EndsSimple", spec := "endsSimple", inPlace := ["internal/bytealg.IndexByteString"], unfollowed := true, recurses := true, loops := true, plainKeys := false, apart := false, narrowed := true }
def EndsSimpleUptoSaid : Prop := endsSimpleUptoRow.holds Try.pinned (OpenSpec.upto endsSimpleSpec)

/-- 'sievelaw11.EndsBest', WHERE WHAT IT READS IS OF BULK AT MOST 1048576: true; the input reads as it did. -/
def endsBestUptoRow : OpenClaim := { program := "ytcnlgmajkclgjaa", sum := "ff9fdc569d5c30da99c172d864a6fdf61b7e537a6916b0c82b2efa15d795bd07", func := "sieve/sievelaw11.EndsBest", spec := "endsBest", inPlace := ["internal/bytealg.IndexByteString"], unfollowed := true, recurses := true, loops := true, plainKeys := false, apart := false, narrowed := true }
def EndsBestUptoSaid : Prop := endsBestUptoRow.holds Try.pinned (OpenSpec.upto endsBestSpec)

/-- 'sievelaw11.EndsLonger', WHERE WHAT IT READS IS OF BULK AT MOST 1048576: true; the input reads as it did. -/
def endsLongerUptoRow : OpenClaim := { program := "ytcnlgmajkclgjaa", sum := "ff9fdc569d5c30da99c172d864a6fdf61b7e537a6916b0c82b2efa15d795bd07", func := "sieve/sievelaw11.EndsLonger", spec := "endsLonger", inPlace := ["internal/bytealg.IndexByteString"], unfollowed := true, recurses := true, loops := true, plainKeys := false, apart := false, narrowed := true }
def EndsLongerUptoSaid : Prop := endsLongerUptoRow.holds Try.pinned (OpenSpec.upto endsLongerSpec)

/-- 'sievelaw11.EndsParts', WHERE WHAT IT READS IS OF BULK AT MOST 1048576: true; the input reads as it did. -/
def endsPartsUptoRow : OpenClaim := { program := "ytcnlgmajkclgjaa", sum := "ff9fdc569d5c30da99c172d864a6fdf61b7e537a6916b0c82b2efa15d795bd07", func := "sieve/sievelaw11.EndsParts", spec := "endsParts", inPlace := ["internal/bytealg.IndexByteString"], unfollowed := true, recurses := true, loops := true, plainKeys := false, apart := false, narrowed := true }
def EndsPartsUptoSaid : Prop := endsPartsUptoRow.holds Try.pinned (OpenSpec.upto endsPartsSpec)

/-- 'sievelaw11.EndsStar', WHERE WHAT IT READS IS OF BULK AT MOST 1048576: true; the input reads as it did. -/
def endsStarUptoRow : OpenClaim := { program := "ytcnlgmajkclgjaa", sum := "ff9fdc569d5c30da99c172d864a6fdf61b7e537a6916b0c82b2efa15d795bd07", func := "sieve/sievelaw11.EndsStar", spec := "endsStar", inPlace := ["internal/bytealg.IndexByteString"], unfollowed := true, recurses := true, loops := true, plainKeys := false, apart := false, narrowed := true }
def EndsStarUptoSaid : Prop := endsStarUptoRow.holds Try.pinned (OpenSpec.upto endsStarSpec)

/-- 'sievelaw10.SimplifyTells', WHERE WHAT IT READS IS OF BULK AT MOST 1048576: true; the input reads as it did. -/
def simplifyTellsUptoRow : OpenClaim := { program := "ytcnlgmajkclgjaa", sum := "ff9fdc569d5c30da99c172d864a6fdf61b7e537a6916b0c82b2efa15d795bd07", func := "sieve/sievelaw10.SimplifyTells", spec := "simplifyTells", inPlace := ["internal/bytealg.IndexByteString"], unfollowed := true, recurses := true, loops := true, plainKeys := false, apart := false, narrowed := true }
def SimplifyTellsUptoSaid : Prop := simplifyTellsUptoRow.holds Try.pinned (OpenSpec.upto simplifyTellsSpec)

/-- 'sievelaw10.SimplifyAgain', WHERE WHAT IT READS IS OF BULK AT MOST 1048576: true; the input reads as it did. -/
def simplifyAgainUptoRow : OpenClaim := { program := "ytcnlgmajkclgjaa", sum := "ff9fdc569d5c30da99c172d864a6fdf61b7e537a6916b0c82b2efa15d795bd07", func := "sieve/sievelaw10.SimplifyAgain", spec := "simplifyAgain", inPlace := ["internal/bytealg.IndexByteString"], unfollowed := true, recurses := true, loops := true, plainKeys := false, apart := false, narrowed := true }
def SimplifyAgainUptoSaid : Prop := simplifyAgainUptoRow.holds Try.pinned (OpenSpec.upto simplifyAgainSpec)

/-- 'sievelaw10.SimplifyKeeps', WHERE WHAT IT READS IS OF BULK AT MOST 1048576: true; the input reads as it did. -/
def simplifyKeepsUptoRow : OpenClaim := { program := "ytcnlgmajkclgjaa", sum := "ff9fdc569d5c30da99c172d864a6fdf61b7e537a6916b0c82b2efa15d795bd07", func := "sieve/sievelaw10.SimplifyKeeps", spec := "simplifyKeeps", inPlace := ["internal/bytealg.IndexByteString"], unfollowed := true, recurses := true, loops := true, plainKeys := false, apart := false, narrowed := true }
def SimplifyKeepsUptoSaid : Prop := simplifyKeepsUptoRow.holds Try.pinned (OpenSpec.upto simplifyKeepsSpec)

/-- 'sievelaw10.SimplifyOne', WHERE WHAT IT READS IS OF BULK AT MOST 1048576: true; the input reads as it did. -/
def simplifyOneUptoRow : OpenClaim := { program := "ytcnlgmajkclgjaa", sum := "ff9fdc569d5c30da99c172d864a6fdf61b7e537a6916b0c82b2efa15d795bd07", func := "sieve/sievelaw10.SimplifyOne", spec := "simplifyOne", inPlace := ["internal/bytealg.IndexByteString"], unfollowed := true, recurses := true, loops := true, plainKeys := false, apart := false, narrowed := true }
def SimplifyOneUptoSaid : Prop := simplifyOneUptoRow.holds Try.pinned (OpenSpec.upto simplifyOneSpec)

/-- 'sievelaw13.ExpandTells', WHERE WHAT IT READS IS OF BULK AT MOST 1048576: true; the input reads as it did. -/
def expandTellsUptoRow : OpenClaim := { program := "ytcnlgmajkclgjaa", sum := "ff9fdc569d5c30da99c172d864a6fdf61b7e537a6916b0c82b2efa15d795bd07", func := "sieve/sievelaw13.ExpandTells", spec := "expandTells", inPlace := ["internal/bytealg.IndexByteString"], unfollowed := true, recurses := true, loops := true, plainKeys := false, apart := false, narrowed := true }
def ExpandTellsUptoSaid : Prop := expandTellsUptoRow.holds Try.pinned (OpenSpec.upto expandTellsSpec)

/-- 'sievelaw13.ExpandSame', WHERE WHAT IT READS IS OF BULK AT MOST 1048576: true; the input reads as it did. -/
def expandSameUptoRow : OpenClaim := { program := "ytcnlgmajkclgjaa", sum := "ff9fdc569d5c30da99c172d864a6fdf61b7e537a6916b0c82b2efa15d795bd07", func := "sieve/sievelaw13.ExpandSame", spec := "expandSame", inPlace := ["internal/bytealg.IndexByteString"], unfollowed := true, recurses := true, loops := true, plainKeys := false, apart := false, narrowed := true }
def ExpandSameUptoSaid : Prop := expandSameUptoRow.holds Try.pinned (OpenSpec.upto expandSameSpec)

/-- 'sievelaw13.ExpandPlain', WHERE WHAT IT READS IS OF BULK AT MOST 1048576: true; the input reads as it did. -/
def expandPlainUptoRow : OpenClaim := { program := "ytcnlgmajkclgjaa", sum := "ff9fdc569d5c30da99c172d864a6fdf61b7e537a6916b0c82b2efa15d795bd07", func := "sieve/sievelaw13.ExpandPlain", spec := "expandPlain", inPlace := ["internal/bytealg.IndexByteString"], unfollowed := true, recurses := true, loops := true, plainKeys := false, apart := false, narrowed := true }
def ExpandPlainUptoSaid : Prop := expandPlainUptoRow.holds Try.pinned (OpenSpec.upto expandPlainSpec)

/-- 'sievelaw13.ExpandBudget', WHERE WHAT IT READS IS OF BULK AT MOST 1048576: true; the input reads as it did. -/
def expandBudgetUptoRow : OpenClaim := { program := "ytcnlgmajkclgjaa", sum := "ff9fdc569d5c30da99c172d864a6fdf61b7e537a6916b0c82b2efa15d795bd07", func := "sieve/sievelaw13.ExpandBudget", spec := "expandBudget", inPlace := ["internal/bytealg.IndexByteString"], unfollowed := true, recurses := true, loops := true, plainKeys := false, apart := false, narrowed := true }
def ExpandBudgetUptoSaid : Prop := expandBudgetUptoRow.holds Try.pinned (OpenSpec.upto expandBudgetSpec)

/-- 'sievelaw13.ExpandFirst', WHERE WHAT IT READS IS OF BULK AT MOST 1048576: true; the input reads as it did. -/
def expandFirstUptoRow : OpenClaim := { program := "ytcnlgmajkclgjaa", sum := "ff9fdc569d5c30da99c172d864a6fdf61b7e537a6916b0c82b2efa15d795bd07", func := "sieve/sievelaw13.ExpandFirst", spec := "expandFirst", inPlace := ["internal/bytealg.IndexByteString"], unfollowed := true, recurses := true, loops := true, plainKeys := false, apart := false, narrowed := true }
def ExpandFirstUptoSaid : Prop := expandFirstUptoRow.holds Try.pinned (OpenSpec.upto expandFirstSpec)

/-- 'sievelaw09.MeasureTells', WHERE WHAT IT READS IS OF BULK AT MOST 1048576: true; the input reads as it did. -/
def measureTellsUptoRow : OpenClaim := { program := "ytcnlgmajkclgjaa", sum := "ff9fdc569d5c30da99c172d864a6fdf61b7e537a6916b0c82b2efa15d795bd07", func := "sieve/sievelaw09.MeasureTells", spec := "measureTells", inPlace := ["internal/bytealg.IndexByteString"], unfollowed := true, recurses := true, loops := true, plainKeys := false, apart := false, narrowed := true }
def MeasureTellsUptoSaid : Prop := measureTellsUptoRow.holds Try.pinned (OpenSpec.upto measureTellsSpec)

/-- 'sievelaw09.MeasureKnows', WHERE WHAT IT READS IS OF BULK AT MOST 1048576: true; the input reads as it did. -/
def measureKnowsUptoRow : OpenClaim := { program := "ytcnlgmajkclgjaa", sum := "ff9fdc569d5c30da99c172d864a6fdf61b7e537a6916b0c82b2efa15d795bd07", func := "sieve/sievelaw09.MeasureKnows", spec := "measureKnows", inPlace := ["internal/bytealg.IndexByteString"], unfollowed := true, recurses := true, loops := true, plainKeys := false, apart := false, narrowed := true }
def MeasureKnowsUptoSaid : Prop := measureKnowsUptoRow.holds Try.pinned (OpenSpec.upto measureKnowsSpec)

/-- 'sievelaw09.MeasureLengths', WHERE WHAT IT READS IS OF BULK AT MOST 1048576: true; the input reads as it did. -/
def measureLengthsUptoRow : OpenClaim := { program := "ytcnlgmajkclgjaa", sum := "ff9fdc569d5c30da99c172d864a6fdf61b7e537a6916b0c82b2efa15d795bd07", func := "sieve/sievelaw09.MeasureLengths", spec := "measureLengths", inPlace := ["internal/bytealg.IndexByteString"], unfollowed := true, recurses := true, loops := true, plainKeys := false, apart := false, narrowed := true }
def MeasureLengthsUptoSaid : Prop := measureLengthsUptoRow.holds Try.pinned (OpenSpec.upto measureLengthsSpec)

/-- 'sievelaw09.MeasureParts', WHERE WHAT IT READS IS OF BULK AT MOST 1048576: true; the input reads as it did. -/
def measurePartsUptoRow : OpenClaim := { program := "ytcnlgmajkclgjaa", sum := "ff9fdc569d5c30da99c172d864a6fdf61b7e537a6916b0c82b2efa15d795bd07", func := "sieve/sievelaw09.MeasureParts", spec := "measureParts", inPlace := ["internal/bytealg.IndexByteString"], unfollowed := true, recurses := true, loops := true, plainKeys := false, apart := false, narrowed := true }
def MeasurePartsUptoSaid : Prop := measurePartsUptoRow.holds Try.pinned (OpenSpec.upto measurePartsSpec)

/-- 'sievelaw09.MeasureRep', WHERE WHAT IT READS IS OF BULK AT MOST 1048576: true; the input reads as it did. -/
def measureRepUptoRow : OpenClaim := { program := "ytcnlgmajkclgjaa", sum := "ff9fdc569d5c30da99c172d864a6fdf61b7e537a6916b0c82b2efa15d795bd07", func := "sieve/sievelaw09.MeasureRep", spec := "measureRep", inPlace := ["internal/bytealg.IndexByteString"], unfollowed := true, recurses := true, loops := true, plainKeys := false, apart := false, narrowed := true }
def MeasureRepUptoSaid : Prop := measureRepUptoRow.holds Try.pinned (OpenSpec.upto measureRepSpec)

/-- 'sievelaw12.DeriveTells', WHERE WHAT IT READS IS OF BULK AT MOST 1048576: true; the input reads as it did. -/
def deriveTellsUptoRow : OpenClaim := { program := "ytcnlgmajkclgjaa", sum := "ff9fdc569d5c30da99c172d864a6fdf61b7e537a6916b0c82b2efa15d795bd07", func := "sieve/sievelaw12.DeriveTells", spec := "deriveTells", inPlace := ["internal/bytealg.IndexByteString"], unfollowed := true, recurses := true, loops := true, plainKeys := false, apart := false, narrowed := true }
def DeriveTellsUptoSaid : Prop := deriveTellsUptoRow.holds Try.pinned (OpenSpec.upto deriveTellsSpec)

/-- 'sievelaw12.DeriveLongest', WHERE WHAT IT READS IS OF BULK AT MOST 1048576: true; the input reads as it did. -/
def deriveLongestUptoRow : OpenClaim := { program := "ytcnlgmajkclgjaa", sum := "ff9fdc569d5c30da99c172d864a6fdf61b7e537a6916b0c82b2efa15d795bd07", func := "sieve/sievelaw12.DeriveLongest", spec := "deriveLongest", inPlace := ["internal/bytealg.IndexByteString"], unfollowed := true, recurses := true, loops := true, plainKeys := false, apart := false, narrowed := true }
def DeriveLongestUptoSaid : Prop := deriveLongestUptoRow.holds Try.pinned (OpenSpec.upto deriveLongestSpec)

/-- 'sievelaw12.DeriveWords', WHERE WHAT IT READS IS OF BULK AT MOST 1048576: true; the input reads as it did. -/
def deriveWordsUptoRow : OpenClaim := { program := "ytcnlgmajkclgjaa", sum := "ff9fdc569d5c30da99c172d864a6fdf61b7e537a6916b0c82b2efa15d795bd07", func := "sieve/sievelaw12.DeriveWords", spec := "deriveWords", inPlace := ["internal/bytealg.IndexByteString"], unfollowed := true, recurses := true, loops := true, plainKeys := false, apart := false, narrowed := true }
def DeriveWordsUptoSaid : Prop := deriveWordsUptoRow.holds Try.pinned (OpenSpec.upto deriveWordsSpec)

/-- 'sievelaw12.DeriveFirst', WHERE WHAT IT READS IS OF BULK AT MOST 1048576: true; the input reads as it did. -/
def deriveFirstUptoRow : OpenClaim := { program := "ytcnlgmajkclgjaa", sum := "ff9fdc569d5c30da99c172d864a6fdf61b7e537a6916b0c82b2efa15d795bd07", func := "sieve/sievelaw12.DeriveFirst", spec := "deriveFirst", inPlace := ["internal/bytealg.IndexByteString"], unfollowed := true, recurses := true, loops := true, plainKeys := false, apart := false, narrowed := true }
def DeriveFirstUptoSaid : Prop := deriveFirstUptoRow.holds Try.pinned (OpenSpec.upto deriveFirstSpec)

/-- 'sievelaw12.DeriveSimple', WHERE WHAT IT READS IS OF BULK AT MOST 1048576: true; the input reads as it did. -/
def deriveSimpleUptoRow : OpenClaim := { program := "ytcnlgmajkclgjaa", sum := "ff9fdc569d5c30da99c172d864a6fdf61b7e537a6916b0c82b2efa15d795bd07", func := "sieve/sievelaw12.DeriveSimple", spec := "deriveSimple", inPlace := ["internal/bytealg.IndexByteString"], unfollowed := true, recurses := true, loops := true, plainKeys := false, apart := false, narrowed := true }
def DeriveSimpleUptoSaid : Prop := deriveSimpleUptoRow.holds Try.pinned (OpenSpec.upto deriveSimpleSpec)

end Rows
end Go.Proofs.Ytcnlgmajkclgjaa
