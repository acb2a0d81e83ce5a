/- Decimal texts, told and read: the small texts of this part, one behind another. -/
import Derived.Lib.ItoaNum
import Derived.Lib.Repeat
import Derived.Test.YtglgakcdjdhonaaGreatS1
import Derived.Test.YtglgakcdjdhonaaGreatS2
import Derived.Test.YtglgakcdjdhonaaGreatLibB
import Derived.Lib.LaidU8
import Derived.MakeChecks
/- Decimal digits: plain lists of bytes. -/
namespace Go.Proofs.YtglgakcdjdhonaaGreat.Nn
open Go.Lib
def dec0 (n : Nat) : List UInt8 := if n = 0 then [] else decDigits n
def padk : Nat → Nat → List UInt8
 | 0, _ => []
 | k + 1, r => padk k (r / 10) ++ [UInt8.ofNat (48 + r % 10)]
end Go.Proofs.YtglgakcdjdhonaaGreat.Nn
/- Contracts by hand: nat.Text: a number's decimal digits. -/
set_option linter.unusedVariables false
namespace Go.Proofs.YtglgakcdjdhonaaGreat.G
open Go.RowKit Go.Proofs.YtglgakcdjdhonaaGreatW.PrintWords Go.Proofs.YtglgakcdjdhonaaGreatW.PrintLast Go.Proofs.YtglgakcdjdhonaaGreat.Nn
open Go.Lib (decDigits join repeatL joinTail join_cons)
open Go.Sort (putRow Holds size_putRow cell?_putRow mapBlock)
def strs (ss : List (List UInt8)) : List Value := ss.map encStr
def TextPost (w : World) (l : List UInt8) (e : Ending) (w' : World) : Prop := ∃ s : ByteArray, e = .returned (.string s) ∧ s.data.toList = l ∧ Below w.heap.size w w'
def Dec (n m : Nat) (ss : List (List UInt8)) : Prop := dec0 n = dec0 m ++ ss.reverse.flatten ∧ (ss ≠ [] → n ≠ 0) ∧ ss.flatten.length ≤ 9 * ss.length ∧ m * 1000000000 ^ ss.length ≤ n ∧ (ss = [] ∨ 1000000000 ^ (ss.length - 1) ≤ n)
end Go.Proofs.YtglgakcdjdhonaaGreat.G
/- The law's example: nought is told as it must be, and seven. -/
set_option linter.unusedVariables false
namespace Go.Proofs.YtglgakcdjdhonaaGreat.G
open Go.RowKit Go.Proofs.YtglgakcdjdhonaaGreatW.PrintWords Go.Proofs.YtglgakcdjdhonaaGreatW.PrintLast Go.Proofs.YtglgakcdjdhonaaGreat.Nn
open Go.Lib (decDigits)
end Go.Proofs.YtglgakcdjdhonaaGreat.G
/- Bounds of numbers, and what the rows hand over. -/
set_option linter.unusedVariables false
namespace Go.Proofs.YtglgakcdjdhonaaGreat.G
open Go.RowKit Go.Proofs.YtglgakcdjdhonaaGreatW.PrintWords Go.Proofs.YtglgakcdjdhonaaGreatW.PrintLast Go.Proofs.YtglgakcdjdhonaaGreat.Nn
theorem pw_lt1000 {n k : Nat} (h : n < pw k) (hk : k ≤ 1000) : n < pw 1000 := Nat.lt_of_lt_of_le h (pw_le hk)
theorem pw_addb {x y a b c : Nat} (hx : x < pw a) (hy : y < pw b) (ha : a + 1 ≤ c) (hb : b + 1 ≤ c) : x + y < pw c := by
 obtain ⟨d, rfl⟩ : ∃ d, c = d + 1 := ⟨c - 1, by omega⟩
 have h1 := pw_le (show a ≤ d by omega)
 have h2 := pw_le (show b ≤ d by omega)
 rw [pw_succ]
 have := pw_pos d
 omega
theorem pw_mulb {x y a b : Nat} (hx : x < pw a) (hy : y < pw b) : x * y < pw (a + b) := by
 rw [pw_add]
 exact Nat.mul_lt_mul'' hx hy
end Go.Proofs.YtglgakcdjdhonaaGreat.G
/- Decimal texts that are read: plain lists of bytes. -/
namespace Go.Proofs.YtglgakcdjdhonaaGreat.Nn
open Go.Lib
def isDig (b : UInt8) : Bool := decide (48 ≤ b.toNat ∧ b.toNat ≤ 57)
def decVal (l : List UInt8) : Nat := l.foldl (fun a b => a * 10 + (b.toNat - 48)) 0
def pcode (l : List UInt8) : Nat := if 400 < l.length then 3 else if l = [] ∨ (1 < l.length ∧ l.getD 0 0 = 48) then 4 else if l.all isDig then 0 else 4
def pnum (l : List UInt8) : Nat := if pcode l = 0 then decVal l else 0
end Go.Proofs.YtglgakcdjdhonaaGreat.Nn
/- Contracts by hand: Parse, the program's and the reference's: a text that is read. -/
set_option linter.unusedVariables false
namespace Go.Proofs.YtglgakcdjdhonaaGreat.G
open Go.RowKit Go.Proofs.YtglgakcdjdhonaaGreatW.PrintWords Go.Proofs.YtglgakcdjdhonaaGreatW.PrintLast Go.Proofs.YtglgakcdjdhonaaGreat.Nn
def ParsePost (w : World) (l : List UInt8) (e : Ending) (w' : World) : Prop := ∃ v, e = .returned (.tuple #[v, .int .i64 (pcode l : Int)]) ∧ Nu w' v (pnum l) ∧ Below w.heap.size w w'
end Go.Proofs.YtglgakcdjdhonaaGreat.G
/- Contracts by hand: Parse, the program's and the reference's: a text that is read. -/
set_option linter.unusedVariables false
namespace Go.Proofs.YtglgakcdjdhonaaGreat.G
open Go.RowKit Go.Proofs.YtglgakcdjdhonaaGreatW.PrintWords Go.Proofs.YtglgakcdjdhonaaGreatW.PrintLast Go.Proofs.YtglgakcdjdhonaaGreat.Nn
def StepPost (wr W : World) (n : Nat) (e : Ending) (w' : World) : Prop := ∃ v, e = .returned v ∧ Nu w' v n ∧ Below wr.heap.size wr w' ∧ ∀ u m, Nu W u m → Nu w' u m
end Go.Proofs.YtglgakcdjdhonaaGreat.G
/- Contracts by hand: the reference's Text: a number's decimal digits, nine at a time. -/
set_option linter.unusedVariables false
namespace Go.Proofs.YtglgakcdjdhonaaGreat.G
open Go.RowKit Go.Proofs.YtglgakcdjdhonaaGreatW.PrintWords Go.Proofs.YtglgakcdjdhonaaGreatW.PrintLast Go.Proofs.YtglgakcdjdhonaaGreat.Nn
open Go.Lib (decDigits)
def TF (n q : Nat) (s : ByteArray) : Prop := dec0 n = dec0 q ++ s.data.toList
end Go.Proofs.YtglgakcdjdhonaaGreat.G
/- strconv's table, out of what a row lists: Itoa at every number below a chunk. -/
set_option linter.unusedVariables false
namespace Go.Proofs.YtglgakcdjdhonaaGreat.G
open Go.RowKit Go.Proofs.YtglgakcdjdhonaaGreatW.PrintWords Go.Proofs.YtglgakcdjdhonaaGreatW.PrintLast Go.Proofs.YtglgakcdjdhonaaGreat.Nn
open Go.Lib (decDigits)
def TabOk (w : World) : Prop := Lib.TabIs Tryz.prog w "internal/strconv.uint64pow10" .u64 Lib.pow10Tab
end Go.Proofs.YtglgakcdjdhonaaGreat.G
