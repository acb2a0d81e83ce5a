/- The small machine's oracles, numbers alone: calls whose contracts are proved elsewhere. Definitions. -/
import Derived.Test.YtpegcppeobndcaaGreatDoorSC
import Derived.Test.YtpegcppeobndcaaGreatDoorProg
import Derived.Test.YtpegcppeobndcaaGreatDoorS6
set_option linter.unusedVariables false
namespace Go.Proofs.YtpegcppeobndcaaGreatDoor.Abs
open Go.Proofs.YtpegcppeobndcaaGreatDoor.G Go.Proofs.YtpegcppeobndcaaGreatDoor.Nn
def valL : List Nat → Nat
 | [] => 0
 | d :: l => d + 4294967296 * valL l
def limL : Nat → Nat → List Nat
 | 0, _ => []
 | f + 1, n => match n with
  | 0 => []
  | m + 1 => ((m + 1) % 4294967296) :: limL f ((m + 1) / 4294967296)
def limbs (n : Nat) : List Nat := limL (n.log2 + 1) n
def u32s : List Value → Option (List Nat)
 | [] => some []
 | .int .u32 (.ofNat x) :: l => match Nat.ble x 4294967295, u32s l with
  | true, some r => some (x :: r)
  | _, _ => none
 | _ => none
def rdL (A : AW) (a : Addr) (l : Nat) : Option Nat := match A.cells? a l with
 | some c => match u32s c with
  | some r => match r.getLast? with
   | some (_ + 1) => some (valL r)
   | _ => none
  | none => none
 | none => none
def rdN (A : AW) : Value → Option Nat
 | .slice none l _ => if Nat.beq l 0 then some 0 else none
 | .slice (some a) l c => if Nat.beq l 0 then some 0 else if Nat.ble l c && Nat.ble l 1000 then rdL A a l else none
 | _ => none
def wrN (A : AW) (n : Nat) : Value × AW :=
 let l := limbs n
 (.slice (some ⟨A.next, 0, none⟩) l.length l.length, A.add (.cells (l.map fun (x : Nat) => Value.int .u32 x) true (.loose 1)))
def rdR (A : AW) : Value → Option Rat
 | .agg ⟨[.bool g, n, d]⟩ => match rdN A n, rdN A d with
  | some n, some d =>
   let r := mkRat (sg g n) d
   if decide (r.num < 0) == g && Nat.beq r.num.natAbs n && Nat.beq r.den d then some r else none
  | _, _ => none
 | _ => none
def wrR (A : AW) (r : Rat) : Value × AW :=
 let (n, A) := wrN A r.num.natAbs
 let (d, A) := wrN A r.den
 (.agg #[.bool (decide (r.num < 0)), n, d], A)
def bndR (r : Rat) : Bool := Nat.ble (r.num.natAbs + 1) (pw 200) && Nat.ble (r.den + 1) (pw 200)
def or1 (f : Rat → Rat) (args : Array Value) (A : AW) : Option (Value × AW) := match args with
 | ⟨[a]⟩ => match rdR A a with
  | some x => if bndR x then some (wrR A (f x)) else none
  | none => none
 | _ => none
def or2 (f : Rat → Rat → Rat) (args : Array Value) (A : AW) : Option (Value × AW) := match args with
 | ⟨[a, b]⟩ => match rdR A a, rdR A b with
  | some x, some y => if bndR x && bndR y then some (wrR A (f x y)) else none
  | _, _ => none
 | _ => none
def or2v (f : Rat → Rat → Value) (args : Array Value) (A : AW) : Option (Value × AW) := match args with
 | ⟨[a, b]⟩ => match rdR A a, rdR A b with
  | some x, some y => if bndR x && bndR y then some (f x y, A) else none
  | _, _ => none
 | _ => none
def cmpR (x y : Rat) : Int := if x < y then -1 else if x = y then 0 else 1
def orQuo (args : Array Value) (A : AW) : Option (Value × AW) := match args with
 | ⟨[a, b]⟩ => match rdR A a, rdR A b with
  | some x, some y => if bndR x && bndR y && decide (y.num ≠ 0) then (let (v, A) := wrR A (x / y); some (.tuple #[v, .int .i64 0], A)) else none
  | _, _ => none
 | _ => none
def orRight (args : Array Value) (A : AW) : Option (Value × AW) := match args with
 | ⟨[a]⟩ => match rdR A a with
  | some x => if bndR x then some (.bool true, A) else none
  | none => none
 | _ => none
def wrZ (A : AW) : Value × AW :=
 let (n, A) := wrN A 0
 let (d, A) := wrN A 0
 (.agg #[.bool false, n, d], A)
def bndN (n : Nat) : Bool := Nat.ble (n + 1) (pw 200)
def orN1k (f : Nat → Nat → Nat) (args : Array Value) (A : AW) : Option (Value × AW) := match args with
 | ⟨[a, .int .i64 (.ofNat k)]⟩ => match rdN A a with
  | some x => if bndN x && Nat.ble k 10000 then some (wrN A (f x k)) else none
  | none => none
 | _ => none
def orSubN (args : Array Value) (A : AW) : Option (Value × AW) := match args with
 | ⟨[a, b]⟩ => match rdN A a, rdN A b with
  | some x, some y => if bndN x && bndN y && Nat.ble y x then some (.tuple #[(wrN A (x - y)).1, .int .i64 0], (wrN A (x - y)).2) else none
  | _, _ => none
 | _ => none
def orDivN (args : Array Value) (A : AW) : Option (Value × AW) := match args with
 | ⟨[a, b]⟩ => match rdN A a, rdN A b with
  | some x, some y => if bndN x && bndN y && Nat.ble 1 y then some (.tuple #[(wrN A (x / y)).1, (wrN (wrN A (x / y)).2 (x % y)).1, .int .i64 0], (wrN (wrN A (x / y)).2 (x % y)).2) else none
  | _, _ => none
 | _ => none
def orMake (args : Array Value) (A : AW) : Option (Value × AW) := match args with
 | ⟨[.bool g, a, b]⟩ => match rdN A a, rdN A b with
  | some x, some y => if bndN x && bndN y && Nat.ble 1 y then some (.tuple #[(wrR A (mkRat (sg g x) y)).1, .int .i64 0], (wrR A (mkRat (sg g x) y)).2) else none
  | _, _ => none
 | _ => none
def orN2 (f : Nat → Nat → Nat) (args : Array Value) (A : AW) : Option (Value × AW) := match args with
 | ⟨[a, b]⟩ => match rdN A a, rdN A b with
  | some x, some y => if bndN x && bndN y then some (wrN A (f x y)) else none
  | _, _ => none
 | _ => none
def orQuoZ (args : Array Value) (A : AW) : Option (Value × AW) := match args with
 | ⟨[a, b]⟩ => match rdR A a, rdR A b with
  | some x, some y => if bndR x && bndR y && decide (y.num = 0) then some (.tuple #[(wrZ A).1, .int .i64 5], (wrZ A).2) else orQuo args A
  | _, _ => none
 | _ => none
def orInt (args : Array Value) (A : AW) : Option (Value × AW) := match args with
 | ⟨[.int .i64 n]⟩ => if decide (-9223372036854775808 ≤ n) && decide (n ≤ 9223372036854775807) then some (wrR A (mkRat n 1)) else none
 | _ => none
def orac : Orac := fun f => match f with
 | 87 => some (or2 fun x y => x + y)
 | 84 => some (or2 fun x y => x - y)
 | 88 => some (or2 fun x y => x * y)
 | 136 => some (or1 fun x => -x)
 | 80 => some (or1 fun x => x.abs)
 | 44 => some (or2v fun x y => .int .i64 (cmpR x y))
 | 127 => some (or2v fun x y => .bool (decide (x = y)))
 | 86 => some orQuoZ
 | 78 => some orRight
 | 56 => some (orN1k fun x k => x * 2 ^ k)
 | 118 => some (orN1k fun x k => x / 2 ^ k)
 | 119 => some orSubN
 | 68 => some orDivN
 | 23 => some orMake
 | 14 => some orInt
 | _ => none
end Go.Proofs.YtpegcppeobndcaaGreatDoor.Abs
