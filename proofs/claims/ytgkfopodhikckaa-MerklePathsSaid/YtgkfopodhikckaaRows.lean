/-
  No cell of these rows narrows 'for every input' (looked for: loops, veiled, ifaces, maps, wideKeys, modest, calm, conditions, laid).
  DERIVED. THE GIVEN ROWS OF THIS SEAT. 16 by the template 'for every input the law returns true; each argument reads behind the call as it read before'; 0 by the template 'total and deterministic' (their statements: YtgkfopodhikckaaTotals.lean).
  GIVEN WITH THE SEED: the statements are not yours to turn. If you find one false, say at which input.
  Laid BY PROGRAM, IN A SANDBOX (cutbox-rows.mjs): the forced cells as the released guide's own fill.sh prints them over the translation c43e5187a44fecf2… (all of the seat's roots in one cut). By AI agents, Wed Nov 11 2026. No macro, syntax, notation, axiom, sorry.
-/
import Derived.Test.YtgkfopodhikckaaChecked
import GoSem.Claim
import GoSem.ClaimJoined
import GoSem.ClaimMapViews
import Derived.JoinedTies
import Derived.KernelRfl
namespace Go.Proofs.Ytgkfopodhikckaa
/- THE CELL 'sum', in the pinned program and in every row, IS THE sha256 OF THE DUMP (.gsa) THAT YtgkfopodhikckaaProg.lean LOADS. Nothing in Lean hashes anything: it is a label: what it is worth is what the hold of that sum in a sandbox is worth. -/
noncomputable def Try.pinned : Pinned := { name := "ytgkfopodhikckaa", sum := "c43e5187a44fecf23538621725ab2b178e5b3de80bb5f975ed40c1dc2dc1e7a1", checked := Try.checked }
namespace Rows
def none {H : Type} : Left H := { results := [], args := [] }

/-- 'bulletinlaw05.Sha256Sum': WHATEVER THE INPUT: true; the input reads as it did. -/
def sha256SumSpec : ChangeSpec := { name := "sha256Sum", fn := fun _ => fun
  | [d] => { results := [.lit (.bool true)], args := [d] }
  | _ => none }
def sha256SumRow : OpenClaim := { program := "ytgkfopodhikckaa", sum := "c43e5187a44fecf23538621725ab2b178e5b3de80bb5f975ed40c1dc2dc1e7a1", func := "bulletin/bulletinlaw05.Sha256Sum", spec := "sha256Sum", inPlace := ["internal/abi.NoEscape"], apart := false }
def Sha256SumSaid : Prop := sha256SumRow.holds Try.pinned (OpenSpec.ofChange sha256SumSpec)

/-- ITS FALSE NEIGHBOUR: 'it returns false'. Refute it at one input. -/
def sha256SumWrong : ChangeSpec := { name := "sha256Sum", fn := fun _ => fun
  | [d] => { results := [.lit (.bool false)], args := [d] }
  | _ => none }
def Sha256SumWrongFalsely : Prop := sha256SumRow.holds Try.pinned (OpenSpec.ofChange sha256SumWrong)

/-- 'bulletinlaw06.MerkleBuilder': WHATEVER THE INPUT: true; the input reads as it did. -/
def merkleBuilderSpec : ChangeSpec := { name := "merkleBuilder", fn := fun _ => fun
  | [d] => { results := [.lit (.bool true)], args := [d] }
  | _ => none }
def merkleBuilderRow : OpenClaim := { program := "ytgkfopodhikckaa", sum := "c43e5187a44fecf23538621725ab2b178e5b3de80bb5f975ed40c1dc2dc1e7a1", func := "bulletin/bulletinlaw06.MerkleBuilder", spec := "merkleBuilder", unfollowed := true, recurses := true, apart := false }
def MerkleBuilderSaid : Prop := merkleBuilderRow.holds Try.pinned (OpenSpec.ofChange merkleBuilderSpec)

/-- ITS FALSE NEIGHBOUR: 'it returns false'. Refute it at one input. -/
def merkleBuilderWrong : ChangeSpec := { name := "merkleBuilder", fn := fun _ => fun
  | [d] => { results := [.lit (.bool false)], args := [d] }
  | _ => none }
def MerkleBuilderWrongFalsely : Prop := merkleBuilderRow.holds Try.pinned (OpenSpec.ofChange merkleBuilderWrong)

/-- 'bulletinlaw05.Sha256Lengths': WHATEVER THE INPUT: true; the input reads as it did. -/
def sha256LengthsSpec : ChangeSpec := { name := "sha256Lengths", fn := fun _ => fun
  | [d] => { results := [.lit (.bool true)], args := [d] }
  | _ => none }
def sha256LengthsRow : OpenClaim := { program := "ytgkfopodhikckaa", sum := "c43e5187a44fecf23538621725ab2b178e5b3de80bb5f975ed40c1dc2dc1e7a1", func := "bulletin/bulletinlaw05.Sha256Lengths", spec := "sha256Lengths", inPlace := ["internal/abi.NoEscape"], apart := false }
def Sha256LengthsSaid : Prop := sha256LengthsRow.holds Try.pinned (OpenSpec.ofChange sha256LengthsSpec)

/-- ITS FALSE NEIGHBOUR: 'it returns false'. Refute it at one input. -/
def sha256LengthsWrong : ChangeSpec := { name := "sha256Lengths", fn := fun _ => fun
  | [d] => { results := [.lit (.bool false)], args := [d] }
  | _ => none }
def Sha256LengthsWrongFalsely : Prop := sha256LengthsRow.holds Try.pinned (OpenSpec.ofChange sha256LengthsWrong)

/-- 'bulletinlaw05.Sha256Half': WHATEVER THE INPUT: true; the input reads as it did. -/
def sha256HalfSpec : ChangeSpec := { name := "sha256Half", fn := fun _ => fun
  | [d] => { results := [.lit (.bool true)], args := [d] }
  | _ => none }
def sha256HalfRow : OpenClaim := { program := "ytgkfopodhikckaa", sum := "c43e5187a44fecf23538621725ab2b178e5b3de80bb5f975ed40c1dc2dc1e7a1", func := "bulletin/bulletinlaw05.Sha256Half", spec := "sha256Half", inPlace := ["internal/abi.NoEscape"], apart := false }
def Sha256HalfSaid : Prop := sha256HalfRow.holds Try.pinned (OpenSpec.ofChange sha256HalfSpec)

/-- ITS FALSE NEIGHBOUR: 'it returns false'. Refute it at one input. -/
def sha256HalfWrong : ChangeSpec := { name := "sha256Half", fn := fun _ => fun
  | [d] => { results := [.lit (.bool false)], args := [d] }
  | _ => none }
def Sha256HalfWrongFalsely : Prop := sha256HalfRow.holds Try.pinned (OpenSpec.ofChange sha256HalfWrong)

/-- 'bulletinlaw06.MerkleLimits': WHATEVER THE INPUT: true; the input reads as it did. -/
def merkleLimitsSpec : ChangeSpec := { name := "merkleLimits", fn := fun _ => fun
  | [d1, d2] => { results := [.lit (.bool true)], args := [d1, d2] }
  | _ => none }
def merkleLimitsRow : OpenClaim := { program := "ytgkfopodhikckaa", sum := "c43e5187a44fecf23538621725ab2b178e5b3de80bb5f975ed40c1dc2dc1e7a1", func := "bulletin/bulletinlaw06.MerkleLimits", spec := "merkleLimits", unfollowed := true, recurses := true, apart := false }
def MerkleLimitsSaid : Prop := merkleLimitsRow.holds Try.pinned (OpenSpec.ofChange merkleLimitsSpec)

/-- ITS FALSE NEIGHBOUR: 'it returns false'. Refute it at one input. -/
def merkleLimitsWrong : ChangeSpec := { name := "merkleLimits", fn := fun _ => fun
  | [d1, d2] => { results := [.lit (.bool false)], args := [d1, d2] }
  | _ => none }
def MerkleLimitsWrongFalsely : Prop := merkleLimitsRow.holds Try.pinned (OpenSpec.ofChange merkleLimitsWrong)

/-- 'bulletinlaw05.Sha256Write': WHATEVER THE INPUT: true; the input reads as it did. -/
def sha256WriteSpec : ChangeSpec := { name := "sha256Write", fn := fun _ => fun
  | [d] => { results := [.lit (.bool true)], args := [d] }
  | _ => none }
def sha256WriteRow : OpenClaim := { program := "ytgkfopodhikckaa", sum := "c43e5187a44fecf23538621725ab2b178e5b3de80bb5f975ed40c1dc2dc1e7a1", func := "bulletin/bulletinlaw05.Sha256Write", spec := "sha256Write", inPlace := ["internal/abi.NoEscape"], apart := false }
def Sha256WriteSaid : Prop := sha256WriteRow.holds Try.pinned (OpenSpec.ofChange sha256WriteSpec)

/-- ITS FALSE NEIGHBOUR: 'it returns false'. Refute it at one input. -/
def sha256WriteWrong : ChangeSpec := { name := "sha256Write", fn := fun _ => fun
  | [d] => { results := [.lit (.bool false)], args := [d] }
  | _ => none }
def Sha256WriteWrongFalsely : Prop := sha256WriteRow.holds Try.pinned (OpenSpec.ofChange sha256WriteWrong)

/-- 'bulletinlaw05.Sha256Clone': WHATEVER THE INPUT: true; the input reads as it did. -/
def sha256CloneSpec : ChangeSpec := { name := "sha256Clone", fn := fun _ => fun
  | [d1, d2, d3] => { results := [.lit (.bool true)], args := [d1, d2, d3] }
  | _ => none }
def sha256CloneRow : OpenClaim := { program := "ytgkfopodhikckaa", sum := "c43e5187a44fecf23538621725ab2b178e5b3de80bb5f975ed40c1dc2dc1e7a1", func := "bulletin/bulletinlaw05.Sha256Clone", spec := "sha256Clone", inPlace := ["internal/abi.NoEscape"], apart := false }
def Sha256CloneSaid : Prop := sha256CloneRow.holds Try.pinned (OpenSpec.ofChange sha256CloneSpec)

/-- ITS FALSE NEIGHBOUR: 'it returns false'. Refute it at one input. -/
def sha256CloneWrong : ChangeSpec := { name := "sha256Clone", fn := fun _ => fun
  | [d1, d2, d3] => { results := [.lit (.bool false)], args := [d1, d2, d3] }
  | _ => none }
def Sha256CloneWrongFalsely : Prop := sha256CloneRow.holds Try.pinned (OpenSpec.ofChange sha256CloneWrong)

/-- 'bulletinlaw05.Sha256Nil': WHATEVER THE INPUT: true; the input reads as it did. -/
def sha256NilSpec : ChangeSpec := { name := "sha256Nil", fn := fun _ => fun
  | [d] => { results := [.lit (.bool true)], args := [d] }
  | _ => none }
def sha256NilRow : OpenClaim := { program := "ytgkfopodhikckaa", sum := "c43e5187a44fecf23538621725ab2b178e5b3de80bb5f975ed40c1dc2dc1e7a1", func := "bulletin/bulletinlaw05.Sha256Nil", spec := "sha256Nil", inPlace := ["internal/abi.NoEscape"], apart := false }
def Sha256NilSaid : Prop := sha256NilRow.holds Try.pinned (OpenSpec.ofChange sha256NilSpec)

/-- ITS FALSE NEIGHBOUR: 'it returns false'. Refute it at one input. -/
def sha256NilWrong : ChangeSpec := { name := "sha256Nil", fn := fun _ => fun
  | [d] => { results := [.lit (.bool false)], args := [d] }
  | _ => none }
def Sha256NilWrongFalsely : Prop := sha256NilRow.holds Try.pinned (OpenSpec.ofChange sha256NilWrong)

/-- 'bulletinlaw05.Sha256Text': WHATEVER THE INPUT: true; the input reads as it did. -/
def sha256TextSpec : ChangeSpec := { name := "sha256Text", fn := fun _ => fun
  | [d] => { results := [.lit (.bool true)], args := [d] }
  | _ => none }
def sha256TextRow : OpenClaim := { program := "ytgkfopodhikckaa", sum := "c43e5187a44fecf23538621725ab2b178e5b3de80bb5f975ed40c1dc2dc1e7a1", func := "bulletin/bulletinlaw05.Sha256Text", spec := "sha256Text", inPlace := ["internal/abi.NoEscape", "internal/bytealg.IndexByteString"], unfollowed := true, recurses := true, apart := false }
def Sha256TextSaid : Prop := sha256TextRow.holds Try.pinned (OpenSpec.ofChange sha256TextSpec)

/-- ITS FALSE NEIGHBOUR: 'it returns false'. Refute it at one input. -/
def sha256TextWrong : ChangeSpec := { name := "sha256Text", fn := fun _ => fun
  | [d] => { results := [.lit (.bool false)], args := [d] }
  | _ => none }
def Sha256TextWrongFalsely : Prop := sha256TextRow.holds Try.pinned (OpenSpec.ofChange sha256TextWrong)

/-- 'bulletinlaw05.Sha256Parse': WHATEVER THE INPUT: true; the input reads as it did. -/
def sha256ParseSpec : ChangeSpec := { name := "sha256Parse", fn := fun _ => fun
  | [d] => { results := [.lit (.bool true)], args := [d] }
  | _ => none }
def sha256ParseRow : OpenClaim := { program := "ytgkfopodhikckaa", sum := "c43e5187a44fecf23538621725ab2b178e5b3de80bb5f975ed40c1dc2dc1e7a1", func := "bulletin/bulletinlaw05.Sha256Parse", spec := "sha256Parse", inPlace := ["internal/bytealg.IndexByteString", "internal/abi.NoEscape"], unfollowed := true, recurses := true, apart := false }
def Sha256ParseSaid : Prop := sha256ParseRow.holds Try.pinned (OpenSpec.ofChange sha256ParseSpec)

/-- ITS FALSE NEIGHBOUR: 'it returns false'. Refute it at one input. -/
def sha256ParseWrong : ChangeSpec := { name := "sha256Parse", fn := fun _ => fun
  | [d] => { results := [.lit (.bool false)], args := [d] }
  | _ => none }
def Sha256ParseWrongFalsely : Prop := sha256ParseRow.holds Try.pinned (OpenSpec.ofChange sha256ParseWrong)

/-- 'bulletinlaw06.MerkleNodes': WHATEVER THE INPUT: true; the input reads as it did. -/
def merkleNodesSpec : ChangeSpec := { name := "merkleNodes", fn := fun _ => fun
  | [d1, d2, d3] => { results := [.lit (.bool true)], args := [d1, d2, d3] }
  | _ => none }
def merkleNodesRow : OpenClaim := { program := "ytgkfopodhikckaa", sum := "c43e5187a44fecf23538621725ab2b178e5b3de80bb5f975ed40c1dc2dc1e7a1", func := "bulletin/bulletinlaw06.MerkleNodes", spec := "merkleNodes", unfollowed := true, recurses := true, apart := false }
def MerkleNodesSaid : Prop := merkleNodesRow.holds Try.pinned (OpenSpec.ofChange merkleNodesSpec)

/-- ITS FALSE NEIGHBOUR: 'it returns false'. Refute it at one input. -/
def merkleNodesWrong : ChangeSpec := { name := "merkleNodes", fn := fun _ => fun
  | [d1, d2, d3] => { results := [.lit (.bool false)], args := [d1, d2, d3] }
  | _ => none }
def MerkleNodesWrongFalsely : Prop := merkleNodesRow.holds Try.pinned (OpenSpec.ofChange merkleNodesWrong)

/-- 'bulletinlaw06.MerkleCollision': WHATEVER THE INPUT: true; the input reads as it did. -/
def merkleCollisionSpec : ChangeSpec := { name := "merkleCollision", fn := fun _ => fun
  | [d1, d2] => { results := [.lit (.bool true)], args := [d1, d2] }
  | _ => none }
def merkleCollisionRow : OpenClaim := { program := "ytgkfopodhikckaa", sum := "c43e5187a44fecf23538621725ab2b178e5b3de80bb5f975ed40c1dc2dc1e7a1", func := "bulletin/bulletinlaw06.MerkleCollision", spec := "merkleCollision", unfollowed := true, recurses := true, apart := false }
def MerkleCollisionSaid : Prop := merkleCollisionRow.holds Try.pinned (OpenSpec.ofChange merkleCollisionSpec)

/-- ITS FALSE NEIGHBOUR: 'it returns false'. Refute it at one input. -/
def merkleCollisionWrong : ChangeSpec := { name := "merkleCollision", fn := fun _ => fun
  | [d1, d2] => { results := [.lit (.bool false)], args := [d1, d2] }
  | _ => none }
def MerkleCollisionWrongFalsely : Prop := merkleCollisionRow.holds Try.pinned (OpenSpec.ofChange merkleCollisionWrong)

/-- 'bulletinlaw06.MerkleRoot': WHATEVER THE INPUT: true; the input reads as it did. -/
def merkleRootSpec : ChangeSpec := { name := "merkleRoot", fn := fun _ => fun
  | [d1, d2] => { results := [.lit (.bool true)], args := [d1, d2] }
  | _ => none }
def merkleRootRow : OpenClaim := { program := "ytgkfopodhikckaa", sum := "c43e5187a44fecf23538621725ab2b178e5b3de80bb5f975ed40c1dc2dc1e7a1", func := "bulletin/bulletinlaw06.MerkleRoot", spec := "merkleRoot", unfollowed := true, recurses := true, apart := false }
def MerkleRootSaid : Prop := merkleRootRow.holds Try.pinned (OpenSpec.ofChange merkleRootSpec)

/-- ITS FALSE NEIGHBOUR: 'it returns false'. Refute it at one input. -/
def merkleRootWrong : ChangeSpec := { name := "merkleRoot", fn := fun _ => fun
  | [d1, d2] => { results := [.lit (.bool false)], args := [d1, d2] }
  | _ => none }
def MerkleRootWrongFalsely : Prop := merkleRootRow.holds Try.pinned (OpenSpec.ofChange merkleRootWrong)

/-- 'bulletinlaw06.MerkleVerify': WHATEVER THE INPUT: true; the input reads as it did. -/
def merkleVerifySpec : ChangeSpec := { name := "merkleVerify", fn := fun _ => fun
  | [d1, d2] => { results := [.lit (.bool true)], args := [d1, d2] }
  | _ => none }
def merkleVerifyRow : OpenClaim := { program := "ytgkfopodhikckaa", sum := "c43e5187a44fecf23538621725ab2b178e5b3de80bb5f975ed40c1dc2dc1e7a1", func := "bulletin/bulletinlaw06.MerkleVerify", spec := "merkleVerify", unfollowed := true, recurses := true, apart := false }
def MerkleVerifySaid : Prop := merkleVerifyRow.holds Try.pinned (OpenSpec.ofChange merkleVerifySpec)

/-- ITS FALSE NEIGHBOUR: 'it returns false'. Refute it at one input. -/
def merkleVerifyWrong : ChangeSpec := { name := "merkleVerify", fn := fun _ => fun
  | [d1, d2] => { results := [.lit (.bool false)], args := [d1, d2] }
  | _ => none }
def MerkleVerifyWrongFalsely : Prop := merkleVerifyRow.holds Try.pinned (OpenSpec.ofChange merkleVerifyWrong)

/-- 'bulletinlaw06.MerklePaths': WHATEVER THE INPUT: true; the input reads as it did. -/
def merklePathsSpec : ChangeSpec := { name := "merklePaths", fn := fun _ => fun
  | [d1, d2] => { results := [.lit (.bool true)], args := [d1, d2] }
  | _ => none }
def merklePathsRow : OpenClaim := { program := "ytgkfopodhikckaa", sum := "c43e5187a44fecf23538621725ab2b178e5b3de80bb5f975ed40c1dc2dc1e7a1", func := "bulletin/bulletinlaw06.MerklePaths", spec := "merklePaths", unfollowed := true, recurses := true, apart := false }
def MerklePathsSaid : Prop := merklePathsRow.holds Try.pinned (OpenSpec.ofChange merklePathsSpec)

/-- ITS FALSE NEIGHBOUR: 'it returns false'. Refute it at one input. -/
def merklePathsWrong : ChangeSpec := { name := "merklePaths", fn := fun _ => fun
  | [d1, d2] => { results := [.lit (.bool false)], args := [d1, d2] }
  | _ => none }
def MerklePathsWrongFalsely : Prop := merklePathsRow.holds Try.pinned (OpenSpec.ofChange merklePathsWrong)

/-- 'bulletinlaw06.MerkleForged': WHATEVER THE INPUT: true; the input reads as it did. -/
def merkleForgedSpec : ChangeSpec := { name := "merkleForged", fn := fun _ => fun
  | [d1, d2, d3] => { results := [.lit (.bool true)], args := [d1, d2, d3] }
  | _ => none }
def merkleForgedRow : OpenClaim := { program := "ytgkfopodhikckaa", sum := "c43e5187a44fecf23538621725ab2b178e5b3de80bb5f975ed40c1dc2dc1e7a1", func := "bulletin/bulletinlaw06.MerkleForged", spec := "merkleForged", unfollowed := true, recurses := true, apart := false }
def MerkleForgedSaid : Prop := merkleForgedRow.holds Try.pinned (OpenSpec.ofChange merkleForgedSpec)

/-- ITS FALSE NEIGHBOUR: 'it returns false'. Refute it at one input. -/
def merkleForgedWrong : ChangeSpec := { name := "merkleForged", fn := fun _ => fun
  | [d1, d2, d3] => { results := [.lit (.bool false)], args := [d1, d2, d3] }
  | _ => none }
def MerkleForgedWrongFalsely : Prop := merkleForgedRow.holds Try.pinned (OpenSpec.ofChange merkleForgedWrong)

/- THE SECOND FORM. 'bulk': how many values and letters a reading holds, each counted each time it is reached (what is shared counts as often as it is met; a slice's spare places count too). A statement '..UptoSaid' is the law's where the arguments, and the package variables that the reading takes, are together of bulk at most 1048576: NARROWER than '..Said'. Prove '..Said' where nothing that the law and all that it calls make is longer than what came in: it says more and counts as full. Else prove '..UptoSaid'. A law counts once. -/
mutual
def uptoBulk {H : Type} : DataW H → Nat
  | .lit (.string bytes) => bytes.length + 1
  | .lit _ => 1
  | .nil => 1
  | .ptr d => uptoBulk d + 1
  | .slice elems spare => uptoBulkAll elems + uptoBulkAll spare + 1
  | .agg parts => uptoBulkAll parts + 1
  | .iface _ d => uptoBulk d + 1
  | .map entries => uptoBulkEntries entries + 1
  | .held _ => 1
def uptoBulkAll {H : Type} : List (DataW H) → Nat
  | [] => 0
  | d :: r => uptoBulk d + uptoBulkAll r
def uptoBulkEntries {H : Type} : List (Lit × DataW H) → Nat
  | [] => 0
  | x :: r => uptoBulkEntry x + uptoBulkEntries r
def uptoBulkEntry {H : Type} : Lit × DataW H → Nat
  | (.string bytes, d) => bytes.length + uptoBulk d + 1
  | (_, d) => uptoBulk d + 1
 end
def uptoSmall : (H : Type) → List (DataW H) → Bool := fun _ ds => decide (uptoBulkAll ds ≤ 1048576)
def OpenSpec.upto (s : _root_.Go.ChangeSpec) : _root_.Go.OpenSpec := { _root_.Go.OpenSpec.ofChange s with cond := some uptoSmall }

/-- 'bulletinlaw05.Sha256Sum', WHERE WHAT IT READS IS OF BULK AT MOST 1048576: true; the input reads as it did. -/
def sha256SumUptoRow : OpenClaim := { program := "ytgkfopodhikckaa", sum := "c43e5187a44fecf23538621725ab2b178e5b3de80bb5f975ed40c1dc2dc1e7a1", func := "bulletin/bulletinlaw05.Sha256Sum", spec := "sha256Sum", inPlace := ["internal/abi.NoEscape"], apart := false, narrowed := true }
def Sha256SumUptoSaid : Prop := sha256SumUptoRow.holds Try.pinned (OpenSpec.upto sha256SumSpec)

/-- 'bulletinlaw06.MerkleBuilder', WHERE WHAT IT READS IS OF BULK AT MOST 1048576: true; the input reads as it did. -/
def merkleBuilderUptoRow : OpenClaim := { program := "ytgkfopodhikckaa", sum := "c43e5187a44fecf23538621725ab2b178e5b3de80bb5f975ed40c1dc2dc1e7a1", func := "bulletin/bulletinlaw06.MerkleBuilder", spec := "merkleBuilder", unfollowed := true, recurses := true, apart := false, narrowed := true }
def MerkleBuilderUptoSaid : Prop := merkleBuilderUptoRow.holds Try.pinned (OpenSpec.upto merkleBuilderSpec)

/-- 'bulletinlaw05.Sha256Lengths', WHERE WHAT IT READS IS OF BULK AT MOST 1048576: true; the input reads as it did. -/
def sha256LengthsUptoRow : OpenClaim := { program := "ytgkfopodhikckaa", sum := "c43e5187a44fecf23538621725ab2b178e5b3de80bb5f975ed40c1dc2dc1e7a1", func := "bulletin/bulletinlaw05.Sha256Lengths", spec := "sha256Lengths", inPlace := ["internal/abi.NoEscape"], apart := false, narrowed := true }
def Sha256LengthsUptoSaid : Prop := sha256LengthsUptoRow.holds Try.pinned (OpenSpec.upto sha256LengthsSpec)

/-- 'bulletinlaw05.Sha256Half', WHERE WHAT IT READS IS OF BULK AT MOST 1048576: true; the input reads as it did. -/
def sha256HalfUptoRow : OpenClaim := { program := "ytgkfopodhikckaa", sum := "c43e5187a44fecf23538621725ab2b178e5b3de80bb5f975ed40c1dc2dc1e7a1", func := "bulletin/bulletinlaw05.Sha256Half", spec := "sha256Half", inPlace := ["internal/abi.NoEscape"], apart := false, narrowed := true }
def Sha256HalfUptoSaid : Prop := sha256HalfUptoRow.holds Try.pinned (OpenSpec.upto sha256HalfSpec)

/-- 'bulletinlaw06.MerkleLimits', WHERE WHAT IT READS IS OF BULK AT MOST 1048576: true; the input reads as it did. -/
def merkleLimitsUptoRow : OpenClaim := { program := "ytgkfopodhikckaa", sum := "c43e5187a44fecf23538621725ab2b178e5b3de80bb5f975ed40c1dc2dc1e7a1", func := "bulletin/bulletinlaw06.MerkleLimits", spec := "merkleLimits", unfollowed := true, recurses := true, apart := false, narrowed := true }
def MerkleLimitsUptoSaid : Prop := merkleLimitsUptoRow.holds Try.pinned (OpenSpec.upto merkleLimitsSpec)

/-- 'bulletinlaw05.Sha256Write', WHERE WHAT IT READS IS OF BULK AT MOST 1048576: true; the input reads as it did. -/
def sha256WriteUptoRow : OpenClaim := { program := "ytgkfopodhikckaa", sum := "c43e5187a44fecf23538621725ab2b178e5b3de80bb5f975ed40c1dc2dc1e7a1", func := "bulletin/bulletinlaw05.Sha256Write", spec := "sha256Write", inPlace := ["internal/abi.NoEscape"], apart := false, narrowed := true }
def Sha256WriteUptoSaid : Prop := sha256WriteUptoRow.holds Try.pinned (OpenSpec.upto sha256WriteSpec)

/-- 'bulletinlaw05.Sha256Clone', WHERE WHAT IT READS IS OF BULK AT MOST 1048576: true; the input reads as it did. -/
def sha256CloneUptoRow : OpenClaim := { program := "ytgkfopodhikckaa", sum := "c43e5187a44fecf23538621725ab2b178e5b3de80bb5f975ed40c1dc2dc1e7a1", func := "bulletin/bulletinlaw05.Sha256Clone", spec := "sha256Clone", inPlace := ["internal/abi.NoEscape"], apart := false, narrowed := true }
def Sha256CloneUptoSaid : Prop := sha256CloneUptoRow.holds Try.pinned (OpenSpec.upto sha256CloneSpec)

/-- 'bulletinlaw05.Sha256Nil', WHERE WHAT IT READS IS OF BULK AT MOST 1048576: true; the input reads as it did. -/
def sha256NilUptoRow : OpenClaim := { program := "ytgkfopodhikckaa", sum := "c43e5187a44fecf23538621725ab2b178e5b3de80bb5f975ed40c1dc2dc1e7a1", func := "bulletin/bulletinlaw05.Sha256Nil", spec := "sha256Nil", inPlace := ["internal/abi.NoEscape"], apart := false, narrowed := true }
def Sha256NilUptoSaid : Prop := sha256NilUptoRow.holds Try.pinned (OpenSpec.upto sha256NilSpec)

/-- 'bulletinlaw05.Sha256Text', WHERE WHAT IT READS IS OF BULK AT MOST 1048576: true; the input reads as it did. -/
def sha256TextUptoRow : OpenClaim := { program := "ytgkfopodhikckaa", sum := "c43e5187a44fecf23538621725ab2b178e5b3de80bb5f975ed40c1dc2dc1e7a1", func := "bulletin/bulletinlaw05.Sha256Text", spec := "sha256Text", inPlace := ["internal/abi.NoEscape", "internal/bytealg.IndexByteString"], unfollowed := true, recurses := true, apart := false, narrowed := true }
def Sha256TextUptoSaid : Prop := sha256TextUptoRow.holds Try.pinned (OpenSpec.upto sha256TextSpec)

/-- 'bulletinlaw05.Sha256Parse', WHERE WHAT IT READS IS OF BULK AT MOST 1048576: true; the input reads as it did. -/
def sha256ParseUptoRow : OpenClaim := { program := "ytgkfopodhikckaa", sum := "c43e5187a44fecf23538621725ab2b178e5b3de80bb5f975ed40c1dc2dc1e7a1", func := "bulletin/bulletinlaw05.Sha256Parse", spec := "sha256Parse", inPlace := ["internal/bytealg.IndexByteString", "internal/abi.NoEscape"], unfollowed := true, recurses := true, apart := false, narrowed := true }
def Sha256ParseUptoSaid : Prop := sha256ParseUptoRow.holds Try.pinned (OpenSpec.upto sha256ParseSpec)

/-- 'bulletinlaw06.MerkleNodes', WHERE WHAT IT READS IS OF BULK AT MOST 1048576: true; the input reads as it did. -/
def merkleNodesUptoRow : OpenClaim := { program := "ytgkfopodhikckaa", sum := "c43e5187a44fecf23538621725ab2b178e5b3de80bb5f975ed40c1dc2dc1e7a1", func := "bulletin/bulletinlaw06.MerkleNodes", spec := "merkleNodes", unfollowed := true, recurses := true, apart := false, narrowed := true }
def MerkleNodesUptoSaid : Prop := merkleNodesUptoRow.holds Try.pinned (OpenSpec.upto merkleNodesSpec)

/-- 'bulletinlaw06.MerkleCollision', WHERE WHAT IT READS IS OF BULK AT MOST 1048576: true; the input reads as it did. -/
def merkleCollisionUptoRow : OpenClaim := { program := "ytgkfopodhikckaa", sum := "c43e5187a44fecf23538621725ab2b178e5b3de80bb5f975ed40c1dc2dc1e7a1", func := "bulletin/bulletinlaw06.MerkleCollision", spec := "merkleCollision", unfollowed := true, recurses := true, apart := false, narrowed := true }
def MerkleCollisionUptoSaid : Prop := merkleCollisionUptoRow.holds Try.pinned (OpenSpec.upto merkleCollisionSpec)

/-- 'bulletinlaw06.MerkleRoot', WHERE WHAT IT READS IS OF BULK AT MOST 1048576: true; the input reads as it did. -/
def merkleRootUptoRow : OpenClaim := { program := "ytgkfopodhikckaa", sum := "c43e5187a44fecf23538621725ab2b178e5b3de80bb5f975ed40c1dc2dc1e7a1", func := "bulletin/bulletinlaw06.MerkleRoot", spec := "merkleRoot", unfollowed := true, recurses := true, apart := false, narrowed := true }
def MerkleRootUptoSaid : Prop := merkleRootUptoRow.holds Try.pinned (OpenSpec.upto merkleRootSpec)

/-- 'bulletinlaw06.MerkleVerify', WHERE WHAT IT READS IS OF BULK AT MOST 1048576: true; the input reads as it did. -/
def merkleVerifyUptoRow : OpenClaim := { program := "ytgkfopodhikckaa", sum := "c43e5187a44fecf23538621725ab2b178e5b3de80bb5f975ed40c1dc2dc1e7a1", func := "bulletin/bulletinlaw06.MerkleVerify", spec := "merkleVerify", unfollowed := true, recurses := true, apart := false, narrowed := true }
def MerkleVerifyUptoSaid : Prop := merkleVerifyUptoRow.holds Try.pinned (OpenSpec.upto merkleVerifySpec)

/-- 'bulletinlaw06.MerklePaths', WHERE WHAT IT READS IS OF BULK AT MOST 1048576: true; the input reads as it did. -/
def merklePathsUptoRow : OpenClaim := { program := "ytgkfopodhikckaa", sum := "c43e5187a44fecf23538621725ab2b178e5b3de80bb5f975ed40c1dc2dc1e7a1", func := "bulletin/bulletinlaw06.MerklePaths", spec := "merklePaths", unfollowed := true, recurses := true, apart := false, narrowed := true }
def MerklePathsUptoSaid : Prop := merklePathsUptoRow.holds Try.pinned (OpenSpec.upto merklePathsSpec)

/-- 'bulletinlaw06.MerkleForged', WHERE WHAT IT READS IS OF BULK AT MOST 1048576: true; the input reads as it did. -/
def merkleForgedUptoRow : OpenClaim := { program := "ytgkfopodhikckaa", sum := "c43e5187a44fecf23538621725ab2b178e5b3de80bb5f975ed40c1dc2dc1e7a1", func := "bulletin/bulletinlaw06.MerkleForged", spec := "merkleForged", unfollowed := true, recurses := true, apart := false, narrowed := true }
def MerkleForgedUptoSaid : Prop := merkleForgedUptoRow.holds Try.pinned (OpenSpec.upto merkleForgedSpec)

end Rows
end Go.Proofs.Ytgkfopodhikckaa
