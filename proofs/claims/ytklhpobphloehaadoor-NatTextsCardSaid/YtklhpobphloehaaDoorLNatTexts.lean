/- The law NatTexts: the walk through its calls, by their contracts; the row and its card. -/
import Derived.Test.YtklhpobphloehaaDoorB
import Derived.Test.YtklhpobphloehaaDoorG23
import Derived.Test.YtklhpobphloehaaDoorG25
import Derived.Test.YtklhpobphloehaaDoorTab
set_option linter.unusedVariables false
namespace Go.Proofs.YtklhpobphloehaaDoor.natTexts
open Go.RowKit
open Go.Proofs.YtklhpobphloehaaDoor.G Go.Proofs.YtklhpobphloehaaDoor.Nn Go.Proofs.YtklhpobphloehaaDoorW.PrintWords Go.Proofs.YtklhpobphloehaaDoorW.PrintLast

theorem parse_told {w : World} {n : Nat} {s : ByteArray} (hs : s.data.toList = Go.Lib.decDigits n) (hn : n < pw 30) : Calls Tryd.prog 26 #[.string s] w (NuPost2 w n 0) := by
  have h1 := dec_short hn
  have h2 := congrArg List.length hs
  rw [data_length] at h2
  refine (parse_w s w (by omega)).mono ?_
  rintro e w' ⟨v, rfl, hN, hB⟩
  rw [hs, pcode_dec h1]
  rw [hs, pnum_dec h1] at hN
  exact ⟨v, rfl, hN, hB⟩
set_option maxHeartbeats 4000000 in
set_option maxRecDepth 100000 in
theorem walk (a0 : Option Addr) (c0 : Nat) (l0 : List Int) (w : World) (hr0 : CU w a0 l0.length l0) (hc0 : l0.length ≤ c0) (hL0 : Lim l0) (HT : TabOk w) :
    Calls Tryd.prog 3 #[.slice a0 l0.length c0] w (TruePost w) := by
  have C0 := Aside0.mk hr0
  have S0 := Aside0.mk hc0
  have L0 := Aside0.mk hL0
  clear hr0 hc0 hL0
  have TAB := Aside0.mk HT
  clear HT
  go_enter Tryd.func3, Tryd.ntmps3
  have HC : Aside0 (Calls Tryd.prog 23 #[] w (TruePost w)) := ⟨known_w w⟩
  go_wp2_with fail
  refine HC.out.mono ?_
  clear HC
  rintro e w1 ⟨rfl, hB⟩
  have B1 := Aside0.mk hB
  have T1 := Aside0.mk (hB.mono (Nat.le_refl _))
  clear hB
  have HC : Aside0 (Calls Tryd.prog 24 #[.slice a0 l0.length c0, .int .i64 30] w1 (NuPost w1 (mk l0 30))) := ⟨makeN 30 (CU_below C0.out T1.out) S0.out L0.out (by decide)⟩
  go_wp2_with fail
  refine HC.out.mono ?_
  clear HC
  rintro e w2 ⟨v_x, rfl, hN, hB⟩
  have B2 := Aside0.mk hB
  have T2 := Aside0.mk (T1.out.trans (hB.mono T1.out.size))
  have H_x := Aside0.mk hN
  have X_x := Aside0.mk (show mk l0 30 < pw 30 from mk_lt L0.out 30)
  clear hN hB
  have HC : Aside0 (Calls Tryd.prog 25 #[v_x] w2 (TextPost w2 (Go.Lib.decDigits (mk l0 30)))) := ⟨textN H_x.out (pw_lt1000 X_x.out (by omega)) ((TAB.out.below B1.out).below B2.out)⟩
  go_wp2_with fail
  refine HC.out.mono ?_
  clear HC
  rintro e w3 ⟨s, rfl, hS, hB⟩
  have B3 := Aside0.mk hB
  have T3 := Aside0.mk (T2.out.trans (hB.mono T2.out.size))
  have HS := Aside0.mk hS
  clear hS hB
  have hsz : s.size ≤ 400 := by have h := congrArg List.length HS.out; rw [data_length] at h; have := dec_short X_x.out; omega
  have HSZ := Aside0.mk hsz
  have HC : Aside0 (Calls Tryd.prog 26 #[.string s] w3 (NuPost2 w3 ((mk l0 30)) 0)) := ⟨parse_told HS.out X_x.out⟩
  go_wp2_with fail
  refine HC.out.mono ?_
  clear HC
  rintro e w4 ⟨v_y, rfl, hN, hB⟩
  have B4 := Aside0.mk hB
  have T4 := Aside0.mk (T3.out.trans (hB.mono T3.out.size))
  have H_y := Aside0.mk hN
  have X_y := Aside0.mk X_x.out
  clear hN hB
  have HC : Aside0 (Calls Tryd.prog 27 #[v_x] w4 (TextPost w4 (Go.Lib.decDigits (mk l0 30)))) := ⟨rtext_w ((H_x.out.below B3.out).below B4.out) (pw_lt1000 X_x.out (by omega))⟩
  go_wp2_with fail
  refine HC.out.mono ?_
  clear HC
  rintro e w5 ⟨t, rfl, hS, hB⟩
  have B5 := Aside0.mk hB
  have T5 := Aside0.mk (T4.out.trans (hB.mono T4.out.size))
  have HT2 := Aside0.mk hS
  clear hS hB
  obtain rfl : t = s := by rw [bytes_eq HS.out, bytes_eq HT2.out]
  have HC : Aside0 (Calls Tryd.prog 28 #[v_y, v_x] w5 (TruePost w5)) := ⟨sameN (H_y.out.below B5.out) (((H_x.out.below B3.out).below B4.out).below B5.out) (pw_lt1000 X_y.out (by omega)) (rfl)⟩
  go_wp2_with fail
  refine HC.out.mono ?_
  clear HC
  rintro e w6 ⟨rfl, hB⟩
  have B6 := Aside0.mk hB
  have T6 := Aside0.mk (T5.out.trans (hB.mono T5.out.size))
  clear hB
  go_wp2_with fail
  go_ret
  exact ⟨rfl, T6.out⟩
end Go.Proofs.YtklhpobphloehaaDoor.natTexts
