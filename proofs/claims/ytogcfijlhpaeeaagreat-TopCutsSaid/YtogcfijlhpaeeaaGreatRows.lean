/-
  No cell of these rows narrows 'for every input' (looked for: loops, veiled, ifaces, maps, wideKeys, modest, calm, conditions, laid).
  DERIVED. THE GIVEN ROWS OF THIS SEAT. 7 by the template 'for every input the law returns true; each argument reads behind the call as it read before'; 0 by the template 'total and deterministic' (their statements: YtogcfijlhpaeeaaGreatTotals.lean).
  GIVEN WITH THE SEED: the statements are not yours to turn. If you find one false, say at which input.
  Laid BY PROGRAM, IN A SANDBOX (cutbox-rows.mjs): the forced cells as the released guide's own fill.sh prints them over the translation 8e9d79d3a1dbd2a7… (all of the seat's roots in one cut). By AI agents, Wed Nov 11 2026. No macro, syntax, notation, axiom, sorry.
-/
import Derived.Test.YtogcfijlhpaeeaaGreatChecked
import GoSem.Claim
import GoSem.ClaimJoined
import GoSem.ClaimMapViews
import Derived.JoinedTies
import Derived.KernelRfl
namespace Go.Proofs.YtogcfijlhpaeeaaGreat
/- THE CELL 'sum', in the pinned program and in every row, IS THE sha256 OF THE DUMP (.gsa) THAT YtogcfijlhpaeeaaGreatProg.lean LOADS. Nothing in Lean hashes anything: it is a label: what it is worth is what the hold of that sum in a sandbox is worth. -/
noncomputable def Tryz.pinned : Pinned := { name := "ytogcfijlhpaeeaagreat", sum := "8e9d79d3a1dbd2a7153ba2e1f617be35fe245b1ee722376aefe9dd56c3cd2b61", checked := Tryz.checked }
namespace Rows
def none {H : Type} : Left H := { results := [], args := [] }

/-- 'kithtop.TopBursts': WHATEVER THE INPUT: true; the input reads as it did. -/
def topBurstsSpec : ChangeSpec := { name := "topBursts", fn := fun _ => fun
  | [d1, d2, d3] => { results := [.lit (.bool true)], args := [d1, d2, d3] }
  | _ => none }
def topBurstsRow : OpenClaim := { program := "ytogcfijlhpaeeaagreat", sum := "8e9d79d3a1dbd2a7153ba2e1f617be35fe245b1ee722376aefe9dd56c3cd2b61", func := "kith/kithtop.TopBursts", spec := "topBursts", inPlace := ["sync/atomic.LoadUint32", "(*internal/sync.Mutex).Lock", "internal/race.Disable", "sync/atomic.CompareAndSwapInt32", "internal/race.Enable", "internal/race.Acquire", "(*internal/sync.Mutex).lockSlow", "internal/sync.runtime_canSpin", "internal/sync.runtime_doSpin", "internal/sync.throw", "internal/sync.runtime_nanotime", "internal/sync.runtime_SemacquireMutex", "sync/atomic.AddInt32", "(*internal/sync.Mutex).Unlock", "internal/race.ReleaseMerge", "(*internal/sync.Mutex).unlockSlow", "internal/sync.fatal", "internal/sync.runtime_Semrelease", "sync/atomic.StoreUint32", "sync/atomic.AddInt64"], unfollowed := true, recurses := true, plainKeys := false, apart := false }
def TopBurstsSaid : Prop := topBurstsRow.holds Tryz.pinned (OpenSpec.ofChange topBurstsSpec)

/-- ITS FALSE NEIGHBOUR: 'it returns false'. Refute it at one input. -/
def topBurstsWrong : ChangeSpec := { name := "topBursts", fn := fun _ => fun
  | [d1, d2, d3] => { results := [.lit (.bool false)], args := [d1, d2, d3] }
  | _ => none }
def TopBurstsWrongFalsely : Prop := topBurstsRow.holds Tryz.pinned (OpenSpec.ofChange topBurstsWrong)

/-- 'kithtop.TopRooms': WHATEVER THE INPUT: true; the input reads as it did. -/
def topRoomsSpec : ChangeSpec := { name := "topRooms", fn := fun _ => fun
  | [d1, d2] => { results := [.lit (.bool true)], args := [d1, d2] }
  | _ => none }
def topRoomsRow : OpenClaim := { program := "ytogcfijlhpaeeaagreat", sum := "8e9d79d3a1dbd2a7153ba2e1f617be35fe245b1ee722376aefe9dd56c3cd2b61", func := "kith/kithtop.TopRooms", spec := "topRooms", inPlace := ["sync/atomic.LoadUint32", "(*internal/sync.Mutex).Lock", "internal/race.Disable", "sync/atomic.CompareAndSwapInt32", "internal/race.Enable", "internal/race.Acquire", "(*internal/sync.Mutex).lockSlow", "internal/sync.runtime_canSpin", "internal/sync.runtime_doSpin", "internal/sync.throw", "internal/sync.runtime_nanotime", "internal/sync.runtime_SemacquireMutex", "sync/atomic.AddInt32", "(*internal/sync.Mutex).Unlock", "internal/race.ReleaseMerge", "(*internal/sync.Mutex).unlockSlow", "internal/sync.fatal", "internal/sync.runtime_Semrelease", "sync/atomic.StoreUint32", "sync/atomic.AddInt64"], unfollowed := true, recurses := true, plainKeys := false, apart := false }
def TopRoomsSaid : Prop := topRoomsRow.holds Tryz.pinned (OpenSpec.ofChange topRoomsSpec)

/-- ITS FALSE NEIGHBOUR: 'it returns false'. Refute it at one input. -/
def topRoomsWrong : ChangeSpec := { name := "topRooms", fn := fun _ => fun
  | [d1, d2] => { results := [.lit (.bool false)], args := [d1, d2] }
  | _ => none }
def TopRoomsWrongFalsely : Prop := topRoomsRow.holds Tryz.pinned (OpenSpec.ofChange topRoomsWrong)

/-- 'kithtop.TopCuts': WHATEVER THE INPUT: true; the input reads as it did. -/
def topCutsSpec : ChangeSpec := { name := "topCuts", fn := fun _ => fun
  | [d1, d2, d3] => { results := [.lit (.bool true)], args := [d1, d2, d3] }
  | _ => none }
def topCutsRow : OpenClaim := { program := "ytogcfijlhpaeeaagreat", sum := "8e9d79d3a1dbd2a7153ba2e1f617be35fe245b1ee722376aefe9dd56c3cd2b61", func := "kith/kithtop.TopCuts", spec := "topCuts", inPlace := ["sync/atomic.LoadUint32", "(*internal/sync.Mutex).Lock", "internal/race.Disable", "sync/atomic.CompareAndSwapInt32", "internal/race.Enable", "internal/race.Acquire", "(*internal/sync.Mutex).lockSlow", "internal/sync.runtime_canSpin", "internal/sync.runtime_doSpin", "internal/sync.throw", "internal/sync.runtime_nanotime", "internal/sync.runtime_SemacquireMutex", "sync/atomic.AddInt32", "(*internal/sync.Mutex).Unlock", "internal/race.ReleaseMerge", "(*internal/sync.Mutex).unlockSlow", "internal/sync.fatal", "internal/sync.runtime_Semrelease", "sync/atomic.StoreUint32", "sync/atomic.AddInt64"], unfollowed := true, recurses := true, plainKeys := false, apart := false }
def TopCutsSaid : Prop := topCutsRow.holds Tryz.pinned (OpenSpec.ofChange topCutsSpec)

/-- ITS FALSE NEIGHBOUR: 'it returns false'. Refute it at one input. -/
def topCutsWrong : ChangeSpec := { name := "topCuts", fn := fun _ => fun
  | [d1, d2, d3] => { results := [.lit (.bool false)], args := [d1, d2, d3] }
  | _ => none }
def TopCutsWrongFalsely : Prop := topCutsRow.holds Tryz.pinned (OpenSpec.ofChange topCutsWrong)

/-- 'kithtop.TopKeeps': WHATEVER THE INPUT: true; the input reads as it did. -/
def topKeepsSpec : ChangeSpec := { name := "topKeeps", fn := fun _ => fun
  | [d1, d2] => { results := [.lit (.bool true)], args := [d1, d2] }
  | _ => none }
def topKeepsRow : OpenClaim := { program := "ytogcfijlhpaeeaagreat", sum := "8e9d79d3a1dbd2a7153ba2e1f617be35fe245b1ee722376aefe9dd56c3cd2b61", func := "kith/kithtop.TopKeeps", spec := "topKeeps", inPlace := ["sync/atomic.LoadUint32", "(*internal/sync.Mutex).Lock", "internal/race.Disable", "sync/atomic.CompareAndSwapInt32", "internal/race.Enable", "internal/race.Acquire", "(*internal/sync.Mutex).lockSlow", "internal/sync.runtime_canSpin", "internal/sync.runtime_doSpin", "internal/sync.throw", "internal/sync.runtime_nanotime", "internal/sync.runtime_SemacquireMutex", "sync/atomic.AddInt32", "(*internal/sync.Mutex).Unlock", "internal/race.ReleaseMerge", "(*internal/sync.Mutex).unlockSlow", "internal/sync.fatal", "internal/sync.runtime_Semrelease", "sync/atomic.StoreUint32", "sync/atomic.AddInt64"], unfollowed := true, recurses := true, plainKeys := false, apart := false }
def TopKeepsSaid : Prop := topKeepsRow.holds Tryz.pinned (OpenSpec.ofChange topKeepsSpec)

/-- ITS FALSE NEIGHBOUR: 'it returns false'. Refute it at one input. -/
def topKeepsWrong : ChangeSpec := { name := "topKeeps", fn := fun _ => fun
  | [d1, d2] => { results := [.lit (.bool false)], args := [d1, d2] }
  | _ => none }
def TopKeepsWrongFalsely : Prop := topKeepsRow.holds Tryz.pinned (OpenSpec.ofChange topKeepsWrong)

/-- 'kithtop.TopStates': WHATEVER THE INPUT: true; the input reads as it did. -/
def topStatesSpec : ChangeSpec := { name := "topStates", fn := fun _ => fun
  | [d1, d2] => { results := [.lit (.bool true)], args := [d1, d2] }
  | _ => none }
def topStatesRow : OpenClaim := { program := "ytogcfijlhpaeeaagreat", sum := "8e9d79d3a1dbd2a7153ba2e1f617be35fe245b1ee722376aefe9dd56c3cd2b61", func := "kith/kithtop.TopStates", spec := "topStates", inPlace := ["sync/atomic.LoadUint32", "(*internal/sync.Mutex).Lock", "internal/race.Disable", "sync/atomic.CompareAndSwapInt32", "internal/race.Enable", "internal/race.Acquire", "(*internal/sync.Mutex).lockSlow", "internal/sync.runtime_canSpin", "internal/sync.runtime_doSpin", "internal/sync.throw", "internal/sync.runtime_nanotime", "internal/sync.runtime_SemacquireMutex", "sync/atomic.AddInt32", "(*internal/sync.Mutex).Unlock", "internal/race.ReleaseMerge", "(*internal/sync.Mutex).unlockSlow", "internal/sync.fatal", "internal/sync.runtime_Semrelease", "sync/atomic.StoreUint32", "sync/atomic.AddInt64"], unfollowed := true, recurses := true, plainKeys := false, apart := false }
def TopStatesSaid : Prop := topStatesRow.holds Tryz.pinned (OpenSpec.ofChange topStatesSpec)

/-- ITS FALSE NEIGHBOUR: 'it returns false'. Refute it at one input. -/
def topStatesWrong : ChangeSpec := { name := "topStates", fn := fun _ => fun
  | [d1, d2] => { results := [.lit (.bool false)], args := [d1, d2] }
  | _ => none }
def TopStatesWrongFalsely : Prop := topStatesRow.holds Tryz.pinned (OpenSpec.ofChange topStatesWrong)

/-- 'kithtop.TopTwice': WHATEVER THE INPUT: true; the input reads as it did. -/
def topTwiceSpec : ChangeSpec := { name := "topTwice", fn := fun _ => fun
  | [d1, d2, d3] => { results := [.lit (.bool true)], args := [d1, d2, d3] }
  | _ => none }
def topTwiceRow : OpenClaim := { program := "ytogcfijlhpaeeaagreat", sum := "8e9d79d3a1dbd2a7153ba2e1f617be35fe245b1ee722376aefe9dd56c3cd2b61", func := "kith/kithtop.TopTwice", spec := "topTwice", inPlace := ["sync/atomic.LoadUint32", "(*internal/sync.Mutex).Lock", "internal/race.Disable", "sync/atomic.CompareAndSwapInt32", "internal/race.Enable", "internal/race.Acquire", "(*internal/sync.Mutex).lockSlow", "internal/sync.runtime_canSpin", "internal/sync.runtime_doSpin", "internal/sync.throw", "internal/sync.runtime_nanotime", "internal/sync.runtime_SemacquireMutex", "sync/atomic.AddInt32", "(*internal/sync.Mutex).Unlock", "internal/race.ReleaseMerge", "(*internal/sync.Mutex).unlockSlow", "internal/sync.fatal", "internal/sync.runtime_Semrelease", "sync/atomic.StoreUint32", "sync/atomic.AddInt64"], unfollowed := true, recurses := true, plainKeys := false, apart := false }
def TopTwiceSaid : Prop := topTwiceRow.holds Tryz.pinned (OpenSpec.ofChange topTwiceSpec)

/-- ITS FALSE NEIGHBOUR: 'it returns false'. Refute it at one input. -/
def topTwiceWrong : ChangeSpec := { name := "topTwice", fn := fun _ => fun
  | [d1, d2, d3] => { results := [.lit (.bool false)], args := [d1, d2, d3] }
  | _ => none }
def TopTwiceWrongFalsely : Prop := topTwiceRow.holds Tryz.pinned (OpenSpec.ofChange topTwiceWrong)

/-- 'kithtop.TopNames': WHATEVER THE INPUT: true; the input reads as it did. -/
def topNamesSpec : ChangeSpec := { name := "topNames", fn := fun _ => fun
  | [d1, d2] => { results := [.lit (.bool true)], args := [d1, d2] }
  | _ => none }
def topNamesRow : OpenClaim := { program := "ytogcfijlhpaeeaagreat", sum := "8e9d79d3a1dbd2a7153ba2e1f617be35fe245b1ee722376aefe9dd56c3cd2b61", func := "kith/kithtop.TopNames", spec := "topNames", inPlace := ["sync/atomic.LoadUint32", "(*internal/sync.Mutex).Lock", "internal/race.Disable", "sync/atomic.CompareAndSwapInt32", "internal/race.Enable", "internal/race.Acquire", "(*internal/sync.Mutex).lockSlow", "internal/sync.runtime_canSpin", "internal/sync.runtime_doSpin", "internal/sync.throw", "internal/sync.runtime_nanotime", "internal/sync.runtime_SemacquireMutex", "sync/atomic.AddInt32", "(*internal/sync.Mutex).Unlock", "internal/race.ReleaseMerge", "(*internal/sync.Mutex).unlockSlow", "internal/sync.fatal", "internal/sync.runtime_Semrelease", "sync/atomic.StoreUint32", "sync/atomic.AddInt64"], unfollowed := true, recurses := true, plainKeys := false, apart := false }
def TopNamesSaid : Prop := topNamesRow.holds Tryz.pinned (OpenSpec.ofChange topNamesSpec)

/-- ITS FALSE NEIGHBOUR: 'it returns false'. Refute it at one input. -/
def topNamesWrong : ChangeSpec := { name := "topNames", fn := fun _ => fun
  | [d1, d2] => { results := [.lit (.bool false)], args := [d1, d2] }
  | _ => none }
def TopNamesWrongFalsely : Prop := topNamesRow.holds Tryz.pinned (OpenSpec.ofChange topNamesWrong)

/- THE SECOND FORM. 'bulk': how many values and letters a reading holds, each counted each time it is reached (what is shared counts as often as it is met; a slice's spare places count too). A statement '..UptoSaid' is the law's where the arguments, and the package variables that the reading takes, are together of bulk at most 1048576: NARROWER than '..Said'. Prove '..Said' where nothing that the law and all that it calls make is longer than what came in: it says more and counts as full. Else prove '..UptoSaid'. A law counts once. -/
mutual
def uptoBulk {H : Type} : DataW H → Nat
  | .lit (.string bytes) => bytes.length + 1
  | .lit _ => 1
  | .nil => 1
  | .ptr d => uptoBulk d + 1
  | .slice elems spare => uptoBulkAll elems + uptoBulkAll spare + 1
  | .agg parts => uptoBulkAll parts + 1
  | .iface _ d => uptoBulk d + 1
  | .map entries => uptoBulkEntries entries + 1
  | .held _ => 1
def uptoBulkAll {H : Type} : List (DataW H) → Nat
  | [] => 0
  | d :: r => uptoBulk d + uptoBulkAll r
def uptoBulkEntries {H : Type} : List (Lit × DataW H) → Nat
  | [] => 0
  | x :: r => uptoBulkEntry x + uptoBulkEntries r
def uptoBulkEntry {H : Type} : Lit × DataW H → Nat
  | (.string bytes, d) => bytes.length + uptoBulk d + 1
  | (_, d) => uptoBulk d + 1
 end
def uptoSmall : (H : Type) → List (DataW H) → Bool := fun _ ds => decide (uptoBulkAll ds ≤ 1048576)
def OpenSpec.upto (s : _root_.Go.ChangeSpec) : _root_.Go.OpenSpec := { _root_.Go.OpenSpec.ofChange s with cond := some uptoSmall }

/-- 'kithtop.TopBursts', WHERE WHAT IT READS IS OF BULK AT MOST 1048576: true; the input reads as it did. -/
def topBurstsUptoRow : OpenClaim := { program := "ytogcfijlhpaeeaagreat", sum := "8e9d79d3a1dbd2a7153ba2e1f617be35fe245b1ee722376aefe9dd56c3cd2b61", func := "kith/kithtop.TopBursts", spec := "topBursts", inPlace := ["sync/atomic.LoadUint32", "(*internal/sync.Mutex).Lock", "internal/race.Disable", "sync/atomic.CompareAndSwapInt32", "internal/race.Enable", "internal/race.Acquire", "(*internal/sync.Mutex).lockSlow", "internal/sync.runtime_canSpin", "internal/sync.runtime_doSpin", "internal/sync.throw", "internal/sync.runtime_nanotime", "internal/sync.runtime_SemacquireMutex", "sync/atomic.AddInt32", "(*internal/sync.Mutex).Unlock", "internal/race.ReleaseMerge", "(*internal/sync.Mutex).unlockSlow", "internal/sync.fatal", "internal/sync.runtime_Semrelease", "sync/atomic.StoreUint32", "sync/atomic.AddInt64"], unfollowed := true, recurses := true, plainKeys := false, apart := false, narrowed := true }
def TopBurstsUptoSaid : Prop := topBurstsUptoRow.holds Tryz.pinned (OpenSpec.upto topBurstsSpec)

/-- 'kithtop.TopRooms', WHERE WHAT IT READS IS OF BULK AT MOST 1048576: true; the input reads as it did. -/
def topRoomsUptoRow : OpenClaim := { program := "ytogcfijlhpaeeaagreat", sum := "8e9d79d3a1dbd2a7153ba2e1f617be35fe245b1ee722376aefe9dd56c3cd2b61", func := "kith/kithtop.TopRooms", spec := "topRooms", inPlace := ["sync/atomic.LoadUint32", "(*internal/sync.Mutex).Lock", "internal/race.Disable", "sync/atomic.CompareAndSwapInt32", "internal/race.Enable", "internal/race.Acquire", "(*internal/sync.Mutex).lockSlow", "internal/sync.runtime_canSpin", "internal/sync.runtime_doSpin", "internal/sync.throw", "internal/sync.runtime_nanotime", "internal/sync.runtime_SemacquireMutex", "sync/atomic.AddInt32", "(*internal/sync.Mutex).Unlock", "internal/race.ReleaseMerge", "(*internal/sync.Mutex).unlockSlow", "internal/sync.fatal", "internal/sync.runtime_Semrelease", "sync/atomic.StoreUint32", "sync/atomic.AddInt64"], unfollowed := true, recurses := true, plainKeys := false, apart := false, narrowed := true }
def TopRoomsUptoSaid : Prop := topRoomsUptoRow.holds Tryz.pinned (OpenSpec.upto topRoomsSpec)

/-- 'kithtop.TopCuts', WHERE WHAT IT READS IS OF BULK AT MOST 1048576: true; the input reads as it did. -/
def topCutsUptoRow : OpenClaim := { program := "ytogcfijlhpaeeaagreat", sum := "8e9d79d3a1dbd2a7153ba2e1f617be35fe245b1ee722376aefe9dd56c3cd2b61", func := "kith/kithtop.TopCuts", spec := "topCuts", inPlace := ["sync/atomic.LoadUint32", "(*internal/sync.Mutex).Lock", "internal/race.Disable", "sync/atomic.CompareAndSwapInt32", "internal/race.Enable", "internal/race.Acquire", "(*internal/sync.Mutex).lockSlow", "internal/sync.runtime_canSpin", "internal/sync.runtime_doSpin", "internal/sync.throw", "internal/sync.runtime_nanotime", "internal/sync.runtime_SemacquireMutex", "sync/atomic.AddInt32", "(*internal/sync.Mutex).Unlock", "internal/race.ReleaseMerge", "(*internal/sync.Mutex).unlockSlow", "internal/sync.fatal", "internal/sync.runtime_Semrelease", "sync/atomic.StoreUint32", "sync/atomic.AddInt64"], unfollowed := true, recurses := true, plainKeys := false, apart := false, narrowed := true }
def TopCutsUptoSaid : Prop := topCutsUptoRow.holds Tryz.pinned (OpenSpec.upto topCutsSpec)

/-- 'kithtop.TopKeeps', WHERE WHAT IT READS IS OF BULK AT MOST 1048576: true; the input reads as it did. -/
def topKeepsUptoRow : OpenClaim := { program := "ytogcfijlhpaeeaagreat", sum := "8e9d79d3a1dbd2a7153ba2e1f617be35fe245b1ee722376aefe9dd56c3cd2b61", func := "kith/kithtop.TopKeeps", spec := "topKeeps", inPlace := ["sync/atomic.LoadUint32", "(*internal/sync.Mutex).Lock", "internal/race.Disable", "sync/atomic.CompareAndSwapInt32", "internal/race.Enable", "internal/race.Acquire", "(*internal/sync.Mutex).lockSlow", "internal/sync.runtime_canSpin", "internal/sync.runtime_doSpin", "internal/sync.throw", "internal/sync.runtime_nanotime", "internal/sync.runtime_SemacquireMutex", "sync/atomic.AddInt32", "(*internal/sync.Mutex).Unlock", "internal/race.ReleaseMerge", "(*internal/sync.Mutex).unlockSlow", "internal/sync.fatal", "internal/sync.runtime_Semrelease", "sync/atomic.StoreUint32", "sync/atomic.AddInt64"], unfollowed := true, recurses := true, plainKeys := false, apart := false, narrowed := true }
def TopKeepsUptoSaid : Prop := topKeepsUptoRow.holds Tryz.pinned (OpenSpec.upto topKeepsSpec)

/-- 'kithtop.TopStates', WHERE WHAT IT READS IS OF BULK AT MOST 1048576: true; the input reads as it did. -/
def topStatesUptoRow : OpenClaim := { program := "ytogcfijlhpaeeaagreat", sum := "8e9d79d3a1dbd2a7153ba2e1f617be35fe245b1ee722376aefe9dd56c3cd2b61", func := "kith/kithtop.TopStates", spec := "topStates", inPlace := ["sync/atomic.LoadUint32", "(*internal/sync.Mutex).Lock", "internal/race.Disable", "sync/atomic.CompareAndSwapInt32", "internal/race.Enable", "internal/race.Acquire", "(*internal/sync.Mutex).lockSlow", "internal/sync.runtime_canSpin", "internal/sync.runtime_doSpin", "internal/sync.throw", "internal/sync.runtime_nanotime", "internal/sync.runtime_SemacquireMutex", "sync/atomic.AddInt32", "(*internal/sync.Mutex).Unlock", "internal/race.ReleaseMerge", "(*internal/sync.Mutex).unlockSlow", "internal/sync.fatal", "internal/sync.runtime_Semrelease", "sync/atomic.StoreUint32", "sync/atomic.AddInt64"], unfollowed := true, recurses := true, plainKeys := false, apart := false, narrowed := true }
def TopStatesUptoSaid : Prop := topStatesUptoRow.holds Tryz.pinned (OpenSpec.upto topStatesSpec)

/-- 'kithtop.TopTwice', WHERE WHAT IT READS IS OF BULK AT MOST 1048576: true; the input reads as it did. -/
def topTwiceUptoRow : OpenClaim := { program := "ytogcfijlhpaeeaagreat", sum := "8e9d79d3a1dbd2a7153ba2e1f617be35fe245b1ee722376aefe9dd56c3cd2b61", func := "kith/kithtop.TopTwice", spec := "topTwice", inPlace := ["sync/atomic.LoadUint32", "(*internal/sync.Mutex).Lock", "internal/race.Disable", "sync/atomic.CompareAndSwapInt32", "internal/race.Enable", "internal/race.Acquire", "(*internal/sync.Mutex).lockSlow", "internal/sync.runtime_canSpin", "internal/sync.runtime_doSpin", "internal/sync.throw", "internal/sync.runtime_nanotime", "internal/sync.runtime_SemacquireMutex", "sync/atomic.AddInt32", "(*internal/sync.Mutex).Unlock", "internal/race.ReleaseMerge", "(*internal/sync.Mutex).unlockSlow", "internal/sync.fatal", "internal/sync.runtime_Semrelease", "sync/atomic.StoreUint32", "sync/atomic.AddInt64"], unfollowed := true, recurses := true, plainKeys := false, apart := false, narrowed := true }
def TopTwiceUptoSaid : Prop := topTwiceUptoRow.holds Tryz.pinned (OpenSpec.upto topTwiceSpec)

/-- 'kithtop.TopNames', WHERE WHAT IT READS IS OF BULK AT MOST 1048576: true; the input reads as it did. -/
def topNamesUptoRow : OpenClaim := { program := "ytogcfijlhpaeeaagreat", sum := "8e9d79d3a1dbd2a7153ba2e1f617be35fe245b1ee722376aefe9dd56c3cd2b61", func := "kith/kithtop.TopNames", spec := "topNames", inPlace := ["sync/atomic.LoadUint32", "(*internal/sync.Mutex).Lock", "internal/race.Disable", "sync/atomic.CompareAndSwapInt32", "internal/race.Enable", "internal/race.Acquire", "(*internal/sync.Mutex).lockSlow", "internal/sync.runtime_canSpin", "internal/sync.runtime_doSpin", "internal/sync.throw", "internal/sync.runtime_nanotime", "internal/sync.runtime_SemacquireMutex", "sync/atomic.AddInt32", "(*internal/sync.Mutex).Unlock", "internal/race.ReleaseMerge", "(*internal/sync.Mutex).unlockSlow", "internal/sync.fatal", "internal/sync.runtime_Semrelease", "sync/atomic.StoreUint32", "sync/atomic.AddInt64"], unfollowed := true, recurses := true, plainKeys := false, apart := false, narrowed := true }
def TopNamesUptoSaid : Prop := topNamesUptoRow.holds Tryz.pinned (OpenSpec.upto topNamesSpec)

end Rows
end Go.Proofs.YtogcfijlhpaeeaaGreat
