/- The law RatKnown: the walk through its calls, by their contracts; the row and its card. -/
import Derived.Test.YtklhpobphloehaaDoorS4
import Derived.Test.YtklhpobphloehaaDoorS6
import Derived.Test.YtklhpobphloehaaDoorS7
set_option linter.unusedVariables false
namespace Go.Proofs.YtklhpobphloehaaDoor.ratKnown
open Go.RowKit
open Go.Proofs.YtklhpobphloehaaDoor.G Go.Proofs.YtklhpobphloehaaDoor.Nn Go.Proofs.YtklhpobphloehaaDoorW.PrintWords Go.Proofs.YtklhpobphloehaaDoorW.PrintLast

theorem bx (W : World) (g : Nat) (a b c : Value) (t : TypeId) (hg : W.heap.size = g) : Blk (W.alloc (.cells #[a, b, c] t)) g a b c := by
  subst hg
  exact Blk_alloc W a b c t
theorem szeroR (w : World) : Calls Tryd.prog 71 #[] w (RaPost w (0 : Rat)) := (szero_w w).mono fun e w' ⟨v, he, hR, hB⟩ => ⟨v, he, hR, hB⟩
theorem rb_zero : Rb 1 (0 : Rat) := ⟨by decide, by decide⟩
theorem rb_int {n : Int} (h : n.natAbs < 4294967296) : Rb 1 ((n : Int) : Rat) := ⟨by show n.natAbs < pw 1; exact h, by show 1 < pw 1; decide⟩
theorem ssameR {w : World} {v0 v1 : Value} {x y : Rat} (hx : Ra w v0 x) (hy : Ra w v1 y) (bx : Rb 400 x) (h : x = y) : Calls Tryd.prog 58 #[v0, v1] w (TruePost w) := by
  subst h
  exact ssame_w hx hy (pw_lt1000 bx.1 (by omega)) (pw_lt1000 bx.2 (by omega))
theorem rat_small (b : Bool) {n d : Nat} (hn : n < 10) (hd : d < 10) : ratT b n d = (if b then [45] else []) ++ [UInt8.ofNat (48 + n)] ++ (if d = 1 then [] else [47, UInt8.ofNat (48 + d)]) := by
  unfold ratT
  rw [decDigits_small hn, decDigits_small hd]
def StrAt (w : World) (g k : Nat) (u : ByteArray) : Prop := w.cell? ⟨g, k, none⟩ = some (.string u)
theorem StrAt.below {w w1 : World} {g k : Nat} {u : ByteArray} (h : StrAt w g k u) (hb : Below w.heap.size w w1) : StrAt w1 g k u := by
  unfold StrAt at h ⊢
  rw [hb.cell (p := ⟨g, k, none⟩) (cell_lt h)]
  exact h
/-- What a text is answered. -/
def Ans (t u : ByteArray) : Prop := (qcode t.data.toList = 4 ∧ u = ⟨#[102, 111, 114, 109]⟩) ∨ (qcode t.data.toList = 5 ∧ u = ⟨#[122, 101, 114, 111]⟩) ∨
  (qcode t.data.toList = 0 ∧ ∃ (B : Bool) (N D : Nat), (decide (qnum t.data.toList ≠ 0) && qneg t.data.toList) = B ∧ qnum t.data.toList / Nat.gcd (qnum t.data.toList) (qden t.data.toList) = N ∧ qden t.data.toList / Nat.gcd (qnum t.data.toList) (qden t.data.toList) = D ∧ N < 10 ∧ D < 10 ∧ u.data.toList = ratT B N D)
theorem known_cells (W : World) (g h k : Nat) (hg : W.heap.size = g) (hh : W.heap.size + 1 = h) (hk : k < 14) :
    ∃ t u : ByteArray, StrAt ((W.alloc (.cells #[.string ⟨#[48]⟩, .string ⟨#[45, 48]⟩, .string ⟨#[52, 47, 50]⟩, .string ⟨#[45, 57, 47, 54]⟩, .string ⟨#[48, 47, 55]⟩, .string ⟨#[49, 47, 48]⟩, .string ⟨#[97]⟩, .string ⟨#[49, 47, 47, 50]⟩, .string ⟨#[]⟩, .string ⟨#[45]⟩, .string ⟨#[49, 47, 48, 50]⟩, .string ⟨#[53, 47, 49]⟩, .string ⟨#[43, 49]⟩, .string ⟨#[49, 48, 47, 52]⟩] 9)).alloc (.cells #[.string ⟨#[48]⟩, .string ⟨#[48]⟩, .string ⟨#[50]⟩, .string ⟨#[45, 51, 47, 50]⟩, .string ⟨#[48]⟩, .string ⟨#[122, 101, 114, 111]⟩, .string ⟨#[102, 111, 114, 109]⟩, .string ⟨#[102, 111, 114, 109]⟩, .string ⟨#[102, 111, 114, 109]⟩, .string ⟨#[102, 111, 114, 109]⟩, .string ⟨#[102, 111, 114, 109]⟩, .string ⟨#[53]⟩, .string ⟨#[102, 111, 114, 109]⟩, .string ⟨#[53, 47, 50]⟩] 9)) g k t ∧ StrAt ((W.alloc (.cells #[.string ⟨#[48]⟩, .string ⟨#[45, 48]⟩, .string ⟨#[52, 47, 50]⟩, .string ⟨#[45, 57, 47, 54]⟩, .string ⟨#[48, 47, 55]⟩, .string ⟨#[49, 47, 48]⟩, .string ⟨#[97]⟩, .string ⟨#[49, 47, 47, 50]⟩, .string ⟨#[]⟩, .string ⟨#[45]⟩, .string ⟨#[49, 47, 48, 50]⟩, .string ⟨#[53, 47, 49]⟩, .string ⟨#[43, 49]⟩, .string ⟨#[49, 48, 47, 52]⟩] 9)).alloc (.cells #[.string ⟨#[48]⟩, .string ⟨#[48]⟩, .string ⟨#[50]⟩, .string ⟨#[45, 51, 47, 50]⟩, .string ⟨#[48]⟩, .string ⟨#[122, 101, 114, 111]⟩, .string ⟨#[102, 111, 114, 109]⟩, .string ⟨#[102, 111, 114, 109]⟩, .string ⟨#[102, 111, 114, 109]⟩, .string ⟨#[102, 111, 114, 109]⟩, .string ⟨#[102, 111, 114, 109]⟩, .string ⟨#[53]⟩, .string ⟨#[102, 111, 114, 109]⟩, .string ⟨#[53, 47, 50]⟩] 9)) h k u ∧ t.size ≤ 100 ∧ Ans t u := by
  subst hg hh
  have : k = 0 ∨ k = 1 ∨ k = 2 ∨ k = 3 ∨ k = 4 ∨ k = 5 ∨ k = 6 ∨ k = 7 ∨ k = 8 ∨ k = 9 ∨ k = 10 ∨ k = 11 ∨ k = 12 ∨ k = 13 := by omega
  unfold StrAt
  rcases this with rfl | rfl | rfl | rfl | rfl | rfl | rfl | rfl | rfl | rfl | rfl | rfl | rfl | rfl
  · exact ⟨⟨#[48]⟩, ⟨#[48]⟩, by simp, by simp, by decide, .inr (.inr ⟨by decide, false, 0, 1, by decide, by decide, by decide, by decide, by decide, by rw [rat_small _ (by decide) (by decide)]; rfl⟩)⟩
  · exact ⟨⟨#[45, 48]⟩, ⟨#[48]⟩, by simp, by simp, by decide, .inr (.inr ⟨by decide, false, 0, 1, by decide, by decide, by decide, by decide, by decide, by rw [rat_small _ (by decide) (by decide)]; rfl⟩)⟩
  · exact ⟨⟨#[52, 47, 50]⟩, ⟨#[50]⟩, by simp, by simp, by decide, .inr (.inr ⟨by decide, false, 2, 1, by decide, by decide, by decide, by decide, by decide, by rw [rat_small _ (by decide) (by decide)]; rfl⟩)⟩
  · exact ⟨⟨#[45, 57, 47, 54]⟩, ⟨#[45, 51, 47, 50]⟩, by simp, by simp, by decide, .inr (.inr ⟨by decide, true, 3, 2, by decide, by decide, by decide, by decide, by decide, by rw [rat_small _ (by decide) (by decide)]; rfl⟩)⟩
  · exact ⟨⟨#[48, 47, 55]⟩, ⟨#[48]⟩, by simp, by simp, by decide, .inr (.inr ⟨by decide, false, 0, 1, by decide, by decide, by decide, by decide, by decide, by rw [rat_small _ (by decide) (by decide)]; rfl⟩)⟩
  · exact ⟨⟨#[49, 47, 48]⟩, ⟨#[122, 101, 114, 111]⟩, by simp, by simp, by decide, .inr (.inl ⟨by decide, rfl⟩)⟩
  · exact ⟨⟨#[97]⟩, ⟨#[102, 111, 114, 109]⟩, by simp, by simp, by decide, .inl ⟨by decide, rfl⟩⟩
  · exact ⟨⟨#[49, 47, 47, 50]⟩, ⟨#[102, 111, 114, 109]⟩, by simp, by simp, by decide, .inl ⟨by decide, rfl⟩⟩
  · exact ⟨⟨#[]⟩, ⟨#[102, 111, 114, 109]⟩, by simp, by simp, by decide, .inl ⟨by decide, rfl⟩⟩
  · exact ⟨⟨#[45]⟩, ⟨#[102, 111, 114, 109]⟩, by simp, by simp, by decide, .inl ⟨by decide, rfl⟩⟩
  · exact ⟨⟨#[49, 47, 48, 50]⟩, ⟨#[102, 111, 114, 109]⟩, by simp, by simp, by decide, .inl ⟨by decide, rfl⟩⟩
  · exact ⟨⟨#[53, 47, 49]⟩, ⟨#[53]⟩, by simp, by simp, by decide, .inr (.inr ⟨by decide, false, 5, 1, by decide, by decide, by decide, by decide, by decide, by rw [rat_small _ (by decide) (by decide)]; rfl⟩)⟩
  · exact ⟨⟨#[43, 49]⟩, ⟨#[102, 111, 114, 109]⟩, by simp, by simp, by decide, .inl ⟨by decide, rfl⟩⟩
  · exact ⟨⟨#[49, 48, 47, 52]⟩, ⟨#[53, 47, 50]⟩, by simp, by simp, by decide, .inr (.inr ⟨by decide, false, 5, 2, by decide, by decide, by decide, by decide, by decide, by rw [rat_small _ (by decide) (by decide)]; rfl⟩)⟩
set_option maxHeartbeats 2000000 in
set_option maxRecDepth 100000 in
theorem early4 (W : World) : Calls Tryd.prog 106 #[.int .i64 4] W fun e w' => e = .returned (.string ⟨#[102, 111, 114, 109]⟩) ∧ W = w' := by
  go_enter Tryd.func106, Tryd.ntmps106
  go_wp2_with fail
  go_ret
  exact ⟨rfl, rfl⟩
set_option maxHeartbeats 2000000 in
set_option maxRecDepth 100000 in
theorem early5 (W : World) : Calls Tryd.prog 106 #[.int .i64 5] W fun e w' => e = .returned (.string ⟨#[122, 101, 114, 111]⟩) ∧ W = w' := by
  go_enter Tryd.func106, Tryd.ntmps106
  go_wp2_with fail
  go_ret
  exact ⟨rfl, rfl⟩
set_option maxHeartbeats 2000000 in
set_option maxRecDepth 100000 in
theorem err4 (W : World) : Calls Tryd.prog 79 #[.int .i64 4] W fun e w' => e = .returned (.string ⟨#[102, 111, 114, 109]⟩) ∧ Below W.heap.size W w' := by
  have H := Aside0.mk (early4 W)
  go_enter Tryd.func79, Tryd.ntmps79
  go_wp2_with fail
  refine H.out.mono ?_
  rintro e wx ⟨rfl, hw⟩
  subst hw
  go_wp2_with fail
  go_ret
  exact ⟨rfl, Below.refl _ _⟩
set_option maxHeartbeats 2000000 in
set_option maxRecDepth 100000 in
theorem err5 (W : World) : Calls Tryd.prog 79 #[.int .i64 5] W fun e w' => e = .returned (.string ⟨#[122, 101, 114, 111]⟩) ∧ Below W.heap.size W w' := by
  have H := Aside0.mk (early5 W)
  go_enter Tryd.func79, Tryd.ntmps79
  go_wp2_with fail
  refine H.out.mono ?_
  rintro e wx ⟨rfl, hw⟩
  subst hw
  go_wp2_with fail
  go_ret
  exact ⟨rfl, Below.refl _ _⟩
theorem read_err {W : World} {t : ByteArray} {c : Nat} (ht : t.size ≤ 100) (hq : qcode t.data.toList = c) (hc : c ≠ 0) (hm : MaxOk W) : Calls Tryd.prog 77 #[.string t] W (R3PostE W false 0 0 (c : Int)) :=
  (qparse_w t W (by omega) hm).mono fun e w' h => by
    subst hq
    unfold ReadPost at h
    rw [if_neg hc] at h
    exact h
theorem read_good {W : World} {t : ByteArray} {B : Bool} {N D : Nat} (ht : t.size ≤ 100) (hq : qcode t.data.toList = 0) (hB : (decide (qnum t.data.toList ≠ 0) && qneg t.data.toList) = B) (hN : qnum t.data.toList / Nat.gcd (qnum t.data.toList) (qden t.data.toList) = N) (hD : qden t.data.toList / Nat.gcd (qnum t.data.toList) (qden t.data.toList) = D) (hm : MaxOk W) :
    Calls Tryd.prog 77 #[.string t] W (R3PostE W B N D 0) :=
  (qparse_w t W (by omega) hm).mono fun e w' h => by
    subst hB hN hD
    unfold ReadPost at h
    rw [if_pos hq] at h
    exact h
set_option maxHeartbeats 8000000 in
set_option maxRecDepth 100000 in
theorem walk (a0 : Int) (w : World) (hi0 : -9223372036854775808 ≤ a0 ∧ a0 ≤ 9223372036854775807) (HT : TabOk w) (HM : MaxOk w) :
    Calls Tryd.prog 22 #[.int .i64 a0] w (TruePost w) := by
  have TAB := Aside0.mk HT
  clear HT
  have MXL := Aside0.mk HM
  clear HM
  obtain ⟨k, ke, hk⟩ : ∃ q : Nat, (q : Int) = a0 % 14 ∧ q < 14 := ⟨(a0 % 14).toNat, by omega, by omega⟩
  have KE := Aside0.mk ke
  have hki : (k : Int) < 14 := by omega
  clear ke
  go_enter Tryd.func22, Tryd.ntmps22
  have HC : Aside0 (Calls Tryd.prog 55 #[] w (TruePost w)) := ⟨known2_w w TAB.out⟩
  go_wp2_with fail
  refine HC.out.mono ?_
  clear HC
  rintro e w1 ⟨rfl, hB⟩
  have B1 := Aside0.mk hB
  have T1 := Aside0.mk (hB.mono (Nat.le_refl _))
  clear hB
  have B2 := Aside0.mk (below_alloc (Below.refl w1.heap.size w1) (.cells #[.string ⟨#[48]⟩, .string ⟨#[45, 48]⟩, .string ⟨#[52, 47, 50]⟩, .string ⟨#[45, 57, 47, 54]⟩, .string ⟨#[48, 47, 55]⟩, .string ⟨#[49, 47, 48]⟩, .string ⟨#[97]⟩, .string ⟨#[49, 47, 47, 50]⟩, .string ⟨#[]⟩, .string ⟨#[45]⟩, .string ⟨#[49, 47, 48, 50]⟩, .string ⟨#[53, 47, 49]⟩, .string ⟨#[43, 49]⟩, .string ⟨#[49, 48, 47, 52]⟩] 9))
  have T2 := Aside0.mk (T1.out.trans (B2.out.mono T1.out.size))
  have B3 := Aside0.mk (below_alloc (Below.refl (w1.alloc (.cells #[.string ⟨#[48]⟩, .string ⟨#[45, 48]⟩, .string ⟨#[52, 47, 50]⟩, .string ⟨#[45, 57, 47, 54]⟩, .string ⟨#[48, 47, 55]⟩, .string ⟨#[49, 47, 48]⟩, .string ⟨#[97]⟩, .string ⟨#[49, 47, 47, 50]⟩, .string ⟨#[]⟩, .string ⟨#[45]⟩, .string ⟨#[49, 47, 48, 50]⟩, .string ⟨#[53, 47, 49]⟩, .string ⟨#[43, 49]⟩, .string ⟨#[49, 48, 47, 52]⟩] 9)).heap.size (w1.alloc (.cells #[.string ⟨#[48]⟩, .string ⟨#[45, 48]⟩, .string ⟨#[52, 47, 50]⟩, .string ⟨#[45, 57, 47, 54]⟩, .string ⟨#[48, 47, 55]⟩, .string ⟨#[49, 47, 48]⟩, .string ⟨#[97]⟩, .string ⟨#[49, 47, 47, 50]⟩, .string ⟨#[]⟩, .string ⟨#[45]⟩, .string ⟨#[49, 47, 48, 50]⟩, .string ⟨#[53, 47, 49]⟩, .string ⟨#[43, 49]⟩, .string ⟨#[49, 48, 47, 52]⟩] 9))) (.cells #[.string ⟨#[48]⟩, .string ⟨#[48]⟩, .string ⟨#[50]⟩, .string ⟨#[45, 51, 47, 50]⟩, .string ⟨#[48]⟩, .string ⟨#[122, 101, 114, 111]⟩, .string ⟨#[102, 111, 114, 109]⟩, .string ⟨#[102, 111, 114, 109]⟩, .string ⟨#[102, 111, 114, 109]⟩, .string ⟨#[102, 111, 114, 109]⟩, .string ⟨#[102, 111, 114, 109]⟩, .string ⟨#[53]⟩, .string ⟨#[102, 111, 114, 109]⟩, .string ⟨#[53, 47, 50]⟩] 9))
  have T3 := Aside0.mk (T2.out.trans (B3.out.mono T2.out.size))
  obtain ⟨t, u, ht, hu, htz, hans⟩ := known_cells w1 (w1.heap.size) (w1.heap.size + 1) k (by simp) (by simp) hk
  have H_t := Aside0.mk ht
  have H_u := Aside0.mk hu
  have HTZ := Aside0.mk htz
  have HAN := Aside0.mk hans
  clear ht hu htz hans
  have HC : Aside0 (Calls Tryd.prog 63 #[.int .i64 a0, .int .i64 14] ((w1.alloc (.cells #[.string ⟨#[48]⟩, .string ⟨#[45, 48]⟩, .string ⟨#[52, 47, 50]⟩, .string ⟨#[45, 57, 47, 54]⟩, .string ⟨#[48, 47, 55]⟩, .string ⟨#[49, 47, 48]⟩, .string ⟨#[97]⟩, .string ⟨#[49, 47, 47, 50]⟩, .string ⟨#[]⟩, .string ⟨#[45]⟩, .string ⟨#[49, 47, 48, 50]⟩, .string ⟨#[53, 47, 49]⟩, .string ⟨#[43, 49]⟩, .string ⟨#[49, 48, 47, 52]⟩] 9)).alloc (.cells #[.string ⟨#[48]⟩, .string ⟨#[48]⟩, .string ⟨#[50]⟩, .string ⟨#[45, 51, 47, 50]⟩, .string ⟨#[48]⟩, .string ⟨#[122, 101, 114, 111]⟩, .string ⟨#[102, 111, 114, 109]⟩, .string ⟨#[102, 111, 114, 109]⟩, .string ⟨#[102, 111, 114, 109]⟩, .string ⟨#[102, 111, 114, 109]⟩, .string ⟨#[102, 111, 114, 109]⟩, .string ⟨#[53]⟩, .string ⟨#[102, 111, 114, 109]⟩, .string ⟨#[53, 47, 50]⟩] 9)) (fun e w' => e = .returned (.int .i64 (k : Int)) ∧ ((w1.alloc (.cells #[.string ⟨#[48]⟩, .string ⟨#[45, 48]⟩, .string ⟨#[52, 47, 50]⟩, .string ⟨#[45, 57, 47, 54]⟩, .string ⟨#[48, 47, 55]⟩, .string ⟨#[49, 47, 48]⟩, .string ⟨#[97]⟩, .string ⟨#[49, 47, 47, 50]⟩, .string ⟨#[]⟩, .string ⟨#[45]⟩, .string ⟨#[49, 47, 48, 50]⟩, .string ⟨#[53, 47, 49]⟩, .string ⟨#[43, 49]⟩, .string ⟨#[49, 48, 47, 52]⟩] 9)).alloc (.cells #[.string ⟨#[48]⟩, .string ⟨#[48]⟩, .string ⟨#[50]⟩, .string ⟨#[45, 51, 47, 50]⟩, .string ⟨#[48]⟩, .string ⟨#[122, 101, 114, 111]⟩, .string ⟨#[102, 111, 114, 109]⟩, .string ⟨#[102, 111, 114, 109]⟩, .string ⟨#[102, 111, 114, 109]⟩, .string ⟨#[102, 111, 114, 109]⟩, .string ⟨#[102, 111, 114, 109]⟩, .string ⟨#[53]⟩, .string ⟨#[102, 111, 114, 109]⟩, .string ⟨#[53, 47, 50]⟩] 9)) = w')) := ⟨by have h := within2_w a0 14 ((w1.alloc (.cells #[.string ⟨#[48]⟩, .string ⟨#[45, 48]⟩, .string ⟨#[52, 47, 50]⟩, .string ⟨#[45, 57, 47, 54]⟩, .string ⟨#[48, 47, 55]⟩, .string ⟨#[49, 47, 48]⟩, .string ⟨#[97]⟩, .string ⟨#[49, 47, 47, 50]⟩, .string ⟨#[]⟩, .string ⟨#[45]⟩, .string ⟨#[49, 47, 48, 50]⟩, .string ⟨#[53, 47, 49]⟩, .string ⟨#[43, 49]⟩, .string ⟨#[49, 48, 47, 52]⟩] 9)).alloc (.cells #[.string ⟨#[48]⟩, .string ⟨#[48]⟩, .string ⟨#[50]⟩, .string ⟨#[45, 51, 47, 50]⟩, .string ⟨#[48]⟩, .string ⟨#[122, 101, 114, 111]⟩, .string ⟨#[102, 111, 114, 109]⟩, .string ⟨#[102, 111, 114, 109]⟩, .string ⟨#[102, 111, 114, 109]⟩, .string ⟨#[102, 111, 114, 109]⟩, .string ⟨#[102, 111, 114, 109]⟩, .string ⟨#[53]⟩, .string ⟨#[102, 111, 114, 109]⟩, .string ⟨#[53, 47, 50]⟩] 9)) (by decide) (by decide); rw [← KE.out] at h; exact h⟩
  go_wp2_with fail
  refine HC.out.mono ?_
  clear HC
  rintro e wx ⟨rfl, hw⟩
  subst hw
  have hct := H_t.out
  unfold StrAt at hct
  rcases HAN.out with hq | hq | hq
  ·
    obtain ⟨hq, rfl⟩ := hq
    have HQ := Aside0.mk hq
    clear hq
    have HC : Aside0 (Calls Tryd.prog 77 #[.string t] ((w1.alloc (.cells #[.string ⟨#[48]⟩, .string ⟨#[45, 48]⟩, .string ⟨#[52, 47, 50]⟩, .string ⟨#[45, 57, 47, 54]⟩, .string ⟨#[48, 47, 55]⟩, .string ⟨#[49, 47, 48]⟩, .string ⟨#[97]⟩, .string ⟨#[49, 47, 47, 50]⟩, .string ⟨#[]⟩, .string ⟨#[45]⟩, .string ⟨#[49, 47, 48, 50]⟩, .string ⟨#[53, 47, 49]⟩, .string ⟨#[43, 49]⟩, .string ⟨#[49, 48, 47, 52]⟩] 9)).alloc (.cells #[.string ⟨#[48]⟩, .string ⟨#[48]⟩, .string ⟨#[50]⟩, .string ⟨#[45, 51, 47, 50]⟩, .string ⟨#[48]⟩, .string ⟨#[122, 101, 114, 111]⟩, .string ⟨#[102, 111, 114, 109]⟩, .string ⟨#[102, 111, 114, 109]⟩, .string ⟨#[102, 111, 114, 109]⟩, .string ⟨#[102, 111, 114, 109]⟩, .string ⟨#[102, 111, 114, 109]⟩, .string ⟨#[53]⟩, .string ⟨#[102, 111, 114, 109]⟩, .string ⟨#[53, 47, 50]⟩] 9)) (R3PostE ((w1.alloc (.cells #[.string ⟨#[48]⟩, .string ⟨#[45, 48]⟩, .string ⟨#[52, 47, 50]⟩, .string ⟨#[45, 57, 47, 54]⟩, .string ⟨#[48, 47, 55]⟩, .string ⟨#[49, 47, 48]⟩, .string ⟨#[97]⟩, .string ⟨#[49, 47, 47, 50]⟩, .string ⟨#[]⟩, .string ⟨#[45]⟩, .string ⟨#[49, 47, 48, 50]⟩, .string ⟨#[53, 47, 49]⟩, .string ⟨#[43, 49]⟩, .string ⟨#[49, 48, 47, 52]⟩] 9)).alloc (.cells #[.string ⟨#[48]⟩, .string ⟨#[48]⟩, .string ⟨#[50]⟩, .string ⟨#[45, 51, 47, 50]⟩, .string ⟨#[48]⟩, .string ⟨#[122, 101, 114, 111]⟩, .string ⟨#[102, 111, 114, 109]⟩, .string ⟨#[102, 111, 114, 109]⟩, .string ⟨#[102, 111, 114, 109]⟩, .string ⟨#[102, 111, 114, 109]⟩, .string ⟨#[102, 111, 114, 109]⟩, .string ⟨#[53]⟩, .string ⟨#[102, 111, 114, 109]⟩, .string ⟨#[53, 47, 50]⟩] 9)) false (0) (0) 4)) := ⟨read_err HTZ.out HQ.out (by decide) (((MXL.out.below B1.out).below B2.out).below B3.out)⟩
    go_wp2_with fail
    refine HC.out.mono ?_
    clear HC
    rintro e w4 ⟨v_a, rfl, ⟨A_a, M_a, c_a, B_a, K_a, d_a, rfl, hNA, hNB⟩, hB⟩
    have B4 := Aside0.mk hB
    have T4 := Aside0.mk (T3.out.trans (hB.mono T3.out.size))
    have NA_a := Aside0.mk hNA
    have NB_a := Aside0.mk hNB
    clear hNA hNB hB
    have H_bx_a := Aside0.mk (Blk_alloc w4 (.bool false) (.slice A_a M_a c_a) (.slice B_a K_a d_a) 56)
    have B5 := Aside0.mk (below_alloc (Below.refl w4.heap.size w4) (.cells #[.bool false, .slice A_a M_a c_a, .slice B_a K_a d_a] 56))
    have T5 := Aside0.mk (T4.out.trans (B5.out.mono T4.out.size))
    have H_ra := Aside0.mk (show R3 (w4.alloc (.cells #[.bool false, .slice A_a M_a c_a, .slice B_a K_a d_a] 56)) (.agg #[(.bool false), (.slice A_a M_a c_a), (.slice B_a K_a d_a)]) false (0) (0) from R3.below (show R3 w4 (.agg #[(.bool false), (.slice A_a M_a c_a), (.slice B_a K_a d_a)]) false (0) (0) from ⟨_, _, _, _, _, _, rfl, NA_a.out, NB_a.out⟩) (below_alloc (Below.refl _ _) _))
    clear hct
    have hM : ((M_a : Int) == 0) = true := by rw [(Nu_len0 NA_a.out).2 rfl]; rfl
    have hK : ((K_a : Int) == 0) = true := by rw [(Nu_len0 NB_a.out).2 rfl]; rfl
    go_wp2_with fail
    have B6 := Aside0.mk (Below.drew (Below.refl (w4.alloc (.cells #[.bool false, .slice A_a M_a c_a, .slice B_a K_a d_a] 56)).heap.size (w4.alloc (.cells #[.bool false, .slice A_a M_a c_a, .slice B_a K_a d_a] 56))))
    have T6 := Aside0.mk (T5.out.trans (B6.out.mono T5.out.size))
    have HS6 := Aside0.mk (fun (W : World) (hW : Below ((w4.alloc (.cells #[.bool false, .slice A_a M_a c_a, .slice B_a K_a d_a] 56)).drew).heap.size ((w4.alloc (.cells #[.bool false, .slice A_a M_a c_a, .slice B_a K_a d_a] 56)).drew) W) => show W.cell? ⟨w4.heap.size, 0, none⟩ = some (.bool false) ∧ W.cell? ⟨w4.heap.size, 1, none⟩ = some (.slice A_a M_a c_a) ∧ W.cell? ⟨w4.heap.size, 2, none⟩ = some (.slice B_a K_a d_a) ∧ W.cell? ⟨w1.heap.size + 1, k, none⟩ = some (.string ⟨#[102, 111, 114, 109]⟩) from ⟨((H_bx_a.out.below B6.out).below hW).1.1, ((H_bx_a.out.below B6.out).below hW).1.2.1, ((H_bx_a.out.below B6.out).below hW).1.2.2, ((((H_u.out.below B4.out).below B5.out).below B6.out).below hW)⟩)
    have U6 := Aside0.mk (Below.refl ((w4.alloc (.cells #[.bool false, .slice A_a M_a c_a, .slice B_a K_a d_a] 56)).drew).heap.size ((w4.alloc (.cells #[.bool false, .slice A_a M_a c_a, .slice B_a K_a d_a] 56)).drew))
    refine wp_region_held_drew (S := fun W => W.cell? ⟨w4.heap.size, 0, none⟩ = some (.bool false) ∧ W.cell? ⟨w4.heap.size, 1, none⟩ = some (.slice A_a M_a c_a) ∧ W.cell? ⟨w4.heap.size, 2, none⟩ = some (.slice B_a K_a d_a) ∧ W.cell? ⟨w1.heap.size + 1, k, none⟩ = some (.string ⟨#[102, 111, 114, 109]⟩)) (by kernel_rfl) (HS6.out _ (Below.refl _ _)) (fun hHeld => ?_)
    refine Inv.takeL (i := 0) (v := ?v6_0) rfl (by kernel_rfl) (by kernel_rfl) (by kernel_rfl) (fun _ _ _ h => h) (by rfl) ?hy6_0 (by assumption) ?rest6_0
    case hy6_0 => ((intro w hSw; (try dsimp only at hSw); go_simp) <;> with_reducible rfl)
    try simp only [Act.put, List.setIfInBounds_toArray, List.set_cons_zero, List.set_cons_succ]
    refine Inv.takeL (i := 2) (v := ?v6_2) rfl (by kernel_rfl) (by kernel_rfl) (by kernel_rfl) (fun _ _ _ h => h) (by rfl) ?hy6_2 (by assumption) ?rest6_2
    case hy6_2 => ((intro w hSw; (try dsimp only at hSw); go_simp) <;> with_reducible rfl)
    try simp only [Act.put, List.setIfInBounds_toArray, List.set_cons_zero, List.set_cons_succ]
    refine Inv.takeL (i := 3) (v := ?v6_3) rfl (by kernel_rfl) (by kernel_rfl) (by kernel_rfl) (fun _ _ _ h => h) (by rfl) ?hy6_3 (by assumption) ?rest6_3
    case hy6_3 => ((intro w hSw; (try dsimp only at hSw); go_simp) <;> with_reducible rfl)
    try simp only [Act.put, List.setIfInBounds_toArray, List.set_cons_zero, List.set_cons_succ]
    refine Inv.takeL (i := 4) (v := ?v6_4) rfl (by kernel_rfl) (by kernel_rfl) (by kernel_rfl) (fun _ _ _ h => h) (by rfl) ?hy6_4 (by assumption) ?rest6_4
    case hy6_4 => ((intro w hSw; (try dsimp only at hSw); go_simp) <;> with_reducible rfl)
    try simp only [Act.put, List.setIfInBounds_toArray, List.set_cons_zero, List.set_cons_succ]
    refine Inv.takeL (i := 5) (v := ?v6_5) rfl (by kernel_rfl) (by kernel_rfl) (by kernel_rfl) (fun _ _ _ h => h) (by rfl) ?hy6_5 (by assumption) ?rest6_5
    case hy6_5 => ((intro w hSw; (try dsimp only at hSw); go_simp) <;> with_reducible rfl)
    try simp only [Act.put, List.setIfInBounds_toArray, List.set_cons_zero, List.set_cons_succ]
    have HC : Aside0 (Calls Tryd.prog 79 #[.int .i64 4] ((w4.alloc (.cells #[.bool false, .slice A_a M_a c_a, .slice B_a K_a d_a] 56)).drew) (fun e w' => e = .returned (.string ⟨#[102, 111, 114, 109]⟩) ∧ Below ((w4.alloc (.cells #[.bool false, .slice A_a M_a c_a, .slice B_a K_a d_a] 56)).drew).heap.size ((w4.alloc (.cells #[.bool false, .slice A_a M_a c_a, .slice B_a K_a d_a] 56)).drew) w')) := ⟨err4 _⟩
    refine Inv.oneL (i := 1) rfl (by kernel_rfl) (fun K hK => ?_)
    go_simp
    refine HC.out.mono ?_
    clear HC
    rintro e w7 ⟨rfl, hB⟩
    try go_wp2_with fail
    have B7 := Aside0.mk hB
    have T7 := Aside0.mk (T6.out.trans (hB.mono T6.out.size))
    clear hB
    have U7 := Aside0.mk (U6.out.trans (B7.out.mono U6.out.size))
    refine hK.out _ _ (HS6.out _ U7.out) (fun hHeld => ?_)
    clear hK K
    try simp only [Act.put, List.setIfInBounds_toArray, List.set_cons_zero, List.set_cons_succ]
    refine Inv.takeL (i := 6) (v := ?v6_6) rfl (by kernel_rfl) (by kernel_rfl) (by kernel_rfl) (fun _ _ _ h => h) (by rfl) ?hy6_6 (by assumption) ?rest6_6
    case hy6_6 => ((intro w hSw; (try dsimp only at hSw); go_simp) <;> with_reducible rfl)
    try simp only [Act.put, List.setIfInBounds_toArray, List.set_cons_zero, List.set_cons_succ]
    refine Inv.takeL (i := 7) (v := ?v6_7) rfl (by kernel_rfl) (by kernel_rfl) (by kernel_rfl) (fun _ _ _ h => h) (by rfl) ?hy6_7 (by assumption) ?rest6_7
    case hy6_7 => ((intro w hSw; (try dsimp only at hSw); go_simp) <;> with_reducible rfl)
    try simp only [Act.put, List.setIfInBounds_toArray, List.set_cons_zero, List.set_cons_succ]
    refine Inv.takeL (i := 8) (v := ?v6_8) rfl (by kernel_rfl) (by kernel_rfl) (by kernel_rfl) (fun _ _ _ h => h) (by rfl) ?hy6_8 (by assumption) ?rest6_8
    case hy6_8 => ((intro w hSw; (try dsimp only at hSw); go_simp) <;> with_reducible rfl)
    try simp only [Act.put, List.setIfInBounds_toArray, List.set_cons_zero, List.set_cons_succ]
    refine Inv.takeL (i := 9) (v := ?v6_9) rfl (by kernel_rfl) (by kernel_rfl) (by kernel_rfl) (fun _ _ _ h => h) (by rfl) ?hy6_9 (by assumption) ?rest6_9
    case hy6_9 => ((intro w hSw; (try dsimp only at hSw); go_simp) <;> with_reducible rfl)
    try simp only [Act.put, List.setIfInBounds_toArray, List.set_cons_zero, List.set_cons_succ]
    refine Inv.takeL (i := 10) (v := ?v6_10) rfl (by kernel_rfl) (by kernel_rfl) (by kernel_rfl) (fun _ _ _ h => h) (by rfl) ?hy6_10 (by assumption) ?rest6_10
    case hy6_10 => ((intro w hSw; (try dsimp only at hSw); go_simp) <;> with_reducible rfl)
    try simp only [Act.put, List.setIfInBounds_toArray, List.set_cons_zero, List.set_cons_succ]
    refine Inv.takeL (i := 11) (v := ?v6_11) rfl (by kernel_rfl) (by kernel_rfl) (by kernel_rfl) (fun _ _ _ h => h) (by rfl) ?hy6_11 (by assumption) ?rest6_11
    case hy6_11 => ((intro w hSw; (try dsimp only at hSw); go_simp) <;> with_reducible rfl)
    try simp only [Act.put, List.setIfInBounds_toArray, List.set_cons_zero, List.set_cons_succ]
    refine Inv.takeL (i := 12) (v := ?v6_12) rfl (by kernel_rfl) (by kernel_rfl) (by kernel_rfl) (fun _ _ _ h => h) (by rfl) ?hy6_12 (by assumption) ?rest6_12
    case hy6_12 => ((intro w hSw; (try dsimp only at hSw); go_simp) <;> with_reducible rfl)
    try simp only [Act.put, List.setIfInBounds_toArray, List.set_cons_zero, List.set_cons_succ]
    refine Inv.takeL (i := 13) (v := ?v6_13) rfl (by kernel_rfl) (by kernel_rfl) (by kernel_rfl) (fun _ _ _ h => h) (by rfl) ?hy6_13 (by assumption) ?rest6_13
    case hy6_13 => ((intro w hSw; (try dsimp only at hSw); go_simp) <;> with_reducible rfl)
    try simp only [Act.put, List.setIfInBounds_toArray, List.set_cons_zero, List.set_cons_succ]
    refine Inv.takeL (i := 14) (v := ?v6_14) rfl (by kernel_rfl) (by kernel_rfl) (by kernel_rfl) (fun _ _ _ h => h) (by rfl) ?hy6_14 (by assumption) ?rest6_14
    case hy6_14 => ((intro w hSw; (try dsimp only at hSw); go_simp) <;> with_reducible rfl)
    try simp only [Act.put, List.setIfInBounds_toArray, List.set_cons_zero, List.set_cons_succ]
    refine Inv.takeL (i := 15) (v := ?v6_15) rfl (by kernel_rfl) (by kernel_rfl) (by kernel_rfl) (fun _ _ _ h => h) (by rfl) ?hy6_15 (by assumption) ?rest6_15
    case hy6_15 => ((intro w hSw; (try dsimp only at hSw); go_simp) <;> with_reducible rfl)
    try simp only [Act.put, List.setIfInBounds_toArray, List.set_cons_zero, List.set_cons_succ]
    refine Inv.takeL (i := 16) (v := ?v6_16) rfl (by kernel_rfl) (by kernel_rfl) (by kernel_rfl) (fun _ _ _ h => h) (by rfl) ?hy6_16 (by assumption) ?rest6_16
    case hy6_16 => ((intro w hSw; (try dsimp only at hSw); go_simp) <;> with_reducible rfl)
    try simp only [Act.put, List.setIfInBounds_toArray, List.set_cons_zero, List.set_cons_succ]
    refine Inv.takeL (i := 17) (v := ?v6_17) rfl (by kernel_rfl) (by kernel_rfl) (by kernel_rfl) (fun _ _ _ h => h) (by rfl) ?hy6_17 (by assumption) ?rest6_17
    case hy6_17 => ((intro w hSw; (try dsimp only at hSw); go_simp) <;> with_reducible rfl)
    try simp only [Act.put, List.setIfInBounds_toArray, List.set_cons_zero, List.set_cons_succ]
    refine Inv.takeL (i := 18) (v := ?v6_18) rfl (by kernel_rfl) (by kernel_rfl) (by kernel_rfl) (fun _ _ _ h => h) (by rfl) ?hy6_18 (by assumption) ?rest6_18
    case hy6_18 => ((intro w hSw; (try dsimp only at hSw); go_simp) <;> with_reducible rfl)
    try simp only [Act.put, List.setIfInBounds_toArray, List.set_cons_zero, List.set_cons_succ]
    refine Inv.takeL (i := 19) (v := ?v6_19) rfl (by kernel_rfl) (by kernel_rfl) (by kernel_rfl) (fun _ _ _ h => h) (by rfl) ?hy6_19 (by assumption) ?rest6_19
    case hy6_19 => ((intro w hSw; (try dsimp only at hSw); go_simp) <;> with_reducible rfl)
    try simp only [Act.put, List.setIfInBounds_toArray, List.set_cons_zero, List.set_cons_succ]
    refine Inv.takeL (i := 20) (v := ?v6_20) rfl (by kernel_rfl) (by kernel_rfl) (by kernel_rfl) (fun _ _ _ h => h) (by rfl) ?hy6_20 (by assumption) ?rest6_20
    case hy6_20 => ((intro w hSw; (try dsimp only at hSw); go_simp) <;> with_reducible rfl)
    try simp only [Act.put, List.setIfInBounds_toArray, List.set_cons_zero, List.set_cons_succ]
    refine Inv.takeL (i := 21) (v := ?v6_21) rfl (by kernel_rfl) (by kernel_rfl) (by kernel_rfl) (fun _ _ _ h => h) (by rfl) ?hy6_21 (by assumption) ?rest6_21
    case hy6_21 => ((intro w hSw; (try dsimp only at hSw); go_simp) <;> with_reducible rfl)
    try simp only [Act.put, List.setIfInBounds_toArray, List.set_cons_zero, List.set_cons_succ]
    refine Inv.takeL (i := 22) (v := ?v6_22) rfl (by kernel_rfl) (by kernel_rfl) (by kernel_rfl) (fun _ _ _ h => h) (by rfl) ?hy6_22 (by assumption) ?rest6_22
    case hy6_22 => ((intro w hSw; (try dsimp only at hSw); go_simp) <;> with_reducible rfl)
    try simp only [Act.put, List.setIfInBounds_toArray, List.set_cons_zero, List.set_cons_succ]
    refine Inv.takeL (i := 23) (v := ?v6_23) rfl (by kernel_rfl) (by kernel_rfl) (by kernel_rfl) (fun _ _ _ h => h) (by rfl) ?hy6_23 (by assumption) ?rest6_23
    case hy6_23 => ((intro w hSw; (try dsimp only at hSw); go_simp) <;> with_reducible rfl)
    try simp only [Act.put, List.setIfInBounds_toArray, List.set_cons_zero, List.set_cons_succ]
    refine Inv.takeL (i := 24) (v := ?v6_24) rfl (by kernel_rfl) (by kernel_rfl) (by kernel_rfl) (fun _ _ _ h => h) (by rfl) ?hy6_24 (by assumption) ?rest6_24
    case hy6_24 => ((intro w hSw; (try dsimp only at hSw); go_simp) <;> with_reducible rfl)
    try simp only [Act.put, List.setIfInBounds_toArray, List.set_cons_zero, List.set_cons_succ]
    refine wpAnyH_done (by kernel_rfl) ?_ _
    go_wp2_with fail
    go_ret
    exact ⟨rfl, T7.out⟩
  ·
    obtain ⟨hq, rfl⟩ := hq
    have HQ := Aside0.mk hq
    clear hq
    have HC : Aside0 (Calls Tryd.prog 77 #[.string t] ((w1.alloc (.cells #[.string ⟨#[48]⟩, .string ⟨#[45, 48]⟩, .string ⟨#[52, 47, 50]⟩, .string ⟨#[45, 57, 47, 54]⟩, .string ⟨#[48, 47, 55]⟩, .string ⟨#[49, 47, 48]⟩, .string ⟨#[97]⟩, .string ⟨#[49, 47, 47, 50]⟩, .string ⟨#[]⟩, .string ⟨#[45]⟩, .string ⟨#[49, 47, 48, 50]⟩, .string ⟨#[53, 47, 49]⟩, .string ⟨#[43, 49]⟩, .string ⟨#[49, 48, 47, 52]⟩] 9)).alloc (.cells #[.string ⟨#[48]⟩, .string ⟨#[48]⟩, .string ⟨#[50]⟩, .string ⟨#[45, 51, 47, 50]⟩, .string ⟨#[48]⟩, .string ⟨#[122, 101, 114, 111]⟩, .string ⟨#[102, 111, 114, 109]⟩, .string ⟨#[102, 111, 114, 109]⟩, .string ⟨#[102, 111, 114, 109]⟩, .string ⟨#[102, 111, 114, 109]⟩, .string ⟨#[102, 111, 114, 109]⟩, .string ⟨#[53]⟩, .string ⟨#[102, 111, 114, 109]⟩, .string ⟨#[53, 47, 50]⟩] 9)) (R3PostE ((w1.alloc (.cells #[.string ⟨#[48]⟩, .string ⟨#[45, 48]⟩, .string ⟨#[52, 47, 50]⟩, .string ⟨#[45, 57, 47, 54]⟩, .string ⟨#[48, 47, 55]⟩, .string ⟨#[49, 47, 48]⟩, .string ⟨#[97]⟩, .string ⟨#[49, 47, 47, 50]⟩, .string ⟨#[]⟩, .string ⟨#[45]⟩, .string ⟨#[49, 47, 48, 50]⟩, .string ⟨#[53, 47, 49]⟩, .string ⟨#[43, 49]⟩, .string ⟨#[49, 48, 47, 52]⟩] 9)).alloc (.cells #[.string ⟨#[48]⟩, .string ⟨#[48]⟩, .string ⟨#[50]⟩, .string ⟨#[45, 51, 47, 50]⟩, .string ⟨#[48]⟩, .string ⟨#[122, 101, 114, 111]⟩, .string ⟨#[102, 111, 114, 109]⟩, .string ⟨#[102, 111, 114, 109]⟩, .string ⟨#[102, 111, 114, 109]⟩, .string ⟨#[102, 111, 114, 109]⟩, .string ⟨#[102, 111, 114, 109]⟩, .string ⟨#[53]⟩, .string ⟨#[102, 111, 114, 109]⟩, .string ⟨#[53, 47, 50]⟩] 9)) false (0) (0) 5)) := ⟨read_err HTZ.out HQ.out (by decide) (((MXL.out.below B1.out).below B2.out).below B3.out)⟩
    go_wp2_with fail
    refine HC.out.mono ?_
    clear HC
    rintro e w4 ⟨v_a, rfl, ⟨A_a, M_a, c_a, B_a, K_a, d_a, rfl, hNA, hNB⟩, hB⟩
    have B4 := Aside0.mk hB
    have T4 := Aside0.mk (T3.out.trans (hB.mono T3.out.size))
    have NA_a := Aside0.mk hNA
    have NB_a := Aside0.mk hNB
    clear hNA hNB hB
    have H_bx_a := Aside0.mk (Blk_alloc w4 (.bool false) (.slice A_a M_a c_a) (.slice B_a K_a d_a) 56)
    have B5 := Aside0.mk (below_alloc (Below.refl w4.heap.size w4) (.cells #[.bool false, .slice A_a M_a c_a, .slice B_a K_a d_a] 56))
    have T5 := Aside0.mk (T4.out.trans (B5.out.mono T4.out.size))
    have H_ra := Aside0.mk (show R3 (w4.alloc (.cells #[.bool false, .slice A_a M_a c_a, .slice B_a K_a d_a] 56)) (.agg #[(.bool false), (.slice A_a M_a c_a), (.slice B_a K_a d_a)]) false (0) (0) from R3.below (show R3 w4 (.agg #[(.bool false), (.slice A_a M_a c_a), (.slice B_a K_a d_a)]) false (0) (0) from ⟨_, _, _, _, _, _, rfl, NA_a.out, NB_a.out⟩) (below_alloc (Below.refl _ _) _))
    clear hct
    have hM : ((M_a : Int) == 0) = true := by rw [(Nu_len0 NA_a.out).2 rfl]; rfl
    have hK : ((K_a : Int) == 0) = true := by rw [(Nu_len0 NB_a.out).2 rfl]; rfl
    go_wp2_with fail
    have B6 := Aside0.mk (Below.drew (Below.refl (w4.alloc (.cells #[.bool false, .slice A_a M_a c_a, .slice B_a K_a d_a] 56)).heap.size (w4.alloc (.cells #[.bool false, .slice A_a M_a c_a, .slice B_a K_a d_a] 56))))
    have T6 := Aside0.mk (T5.out.trans (B6.out.mono T5.out.size))
    have HS6 := Aside0.mk (fun (W : World) (hW : Below ((w4.alloc (.cells #[.bool false, .slice A_a M_a c_a, .slice B_a K_a d_a] 56)).drew).heap.size ((w4.alloc (.cells #[.bool false, .slice A_a M_a c_a, .slice B_a K_a d_a] 56)).drew) W) => show W.cell? ⟨w4.heap.size, 0, none⟩ = some (.bool false) ∧ W.cell? ⟨w4.heap.size, 1, none⟩ = some (.slice A_a M_a c_a) ∧ W.cell? ⟨w4.heap.size, 2, none⟩ = some (.slice B_a K_a d_a) ∧ W.cell? ⟨w1.heap.size + 1, k, none⟩ = some (.string ⟨#[122, 101, 114, 111]⟩) from ⟨((H_bx_a.out.below B6.out).below hW).1.1, ((H_bx_a.out.below B6.out).below hW).1.2.1, ((H_bx_a.out.below B6.out).below hW).1.2.2, ((((H_u.out.below B4.out).below B5.out).below B6.out).below hW)⟩)
    have U6 := Aside0.mk (Below.refl ((w4.alloc (.cells #[.bool false, .slice A_a M_a c_a, .slice B_a K_a d_a] 56)).drew).heap.size ((w4.alloc (.cells #[.bool false, .slice A_a M_a c_a, .slice B_a K_a d_a] 56)).drew))
    refine wp_region_held_drew (S := fun W => W.cell? ⟨w4.heap.size, 0, none⟩ = some (.bool false) ∧ W.cell? ⟨w4.heap.size, 1, none⟩ = some (.slice A_a M_a c_a) ∧ W.cell? ⟨w4.heap.size, 2, none⟩ = some (.slice B_a K_a d_a) ∧ W.cell? ⟨w1.heap.size + 1, k, none⟩ = some (.string ⟨#[122, 101, 114, 111]⟩)) (by kernel_rfl) (HS6.out _ (Below.refl _ _)) (fun hHeld => ?_)
    refine Inv.takeL (i := 0) (v := ?v7_0) rfl (by kernel_rfl) (by kernel_rfl) (by kernel_rfl) (fun _ _ _ h => h) (by rfl) ?hy7_0 (by assumption) ?rest7_0
    case hy7_0 => ((intro w hSw; (try dsimp only at hSw); go_simp) <;> with_reducible rfl)
    try simp only [Act.put, List.setIfInBounds_toArray, List.set_cons_zero, List.set_cons_succ]
    refine Inv.takeL (i := 2) (v := ?v7_2) rfl (by kernel_rfl) (by kernel_rfl) (by kernel_rfl) (fun _ _ _ h => h) (by rfl) ?hy7_2 (by assumption) ?rest7_2
    case hy7_2 => ((intro w hSw; (try dsimp only at hSw); go_simp) <;> with_reducible rfl)
    try simp only [Act.put, List.setIfInBounds_toArray, List.set_cons_zero, List.set_cons_succ]
    refine Inv.takeL (i := 3) (v := ?v7_3) rfl (by kernel_rfl) (by kernel_rfl) (by kernel_rfl) (fun _ _ _ h => h) (by rfl) ?hy7_3 (by assumption) ?rest7_3
    case hy7_3 => ((intro w hSw; (try dsimp only at hSw); go_simp) <;> with_reducible rfl)
    try simp only [Act.put, List.setIfInBounds_toArray, List.set_cons_zero, List.set_cons_succ]
    refine Inv.takeL (i := 4) (v := ?v7_4) rfl (by kernel_rfl) (by kernel_rfl) (by kernel_rfl) (fun _ _ _ h => h) (by rfl) ?hy7_4 (by assumption) ?rest7_4
    case hy7_4 => ((intro w hSw; (try dsimp only at hSw); go_simp) <;> with_reducible rfl)
    try simp only [Act.put, List.setIfInBounds_toArray, List.set_cons_zero, List.set_cons_succ]
    refine Inv.takeL (i := 5) (v := ?v7_5) rfl (by kernel_rfl) (by kernel_rfl) (by kernel_rfl) (fun _ _ _ h => h) (by rfl) ?hy7_5 (by assumption) ?rest7_5
    case hy7_5 => ((intro w hSw; (try dsimp only at hSw); go_simp) <;> with_reducible rfl)
    try simp only [Act.put, List.setIfInBounds_toArray, List.set_cons_zero, List.set_cons_succ]
    have HC : Aside0 (Calls Tryd.prog 79 #[.int .i64 5] ((w4.alloc (.cells #[.bool false, .slice A_a M_a c_a, .slice B_a K_a d_a] 56)).drew) (fun e w' => e = .returned (.string ⟨#[122, 101, 114, 111]⟩) ∧ Below ((w4.alloc (.cells #[.bool false, .slice A_a M_a c_a, .slice B_a K_a d_a] 56)).drew).heap.size ((w4.alloc (.cells #[.bool false, .slice A_a M_a c_a, .slice B_a K_a d_a] 56)).drew) w')) := ⟨err5 _⟩
    refine Inv.oneL (i := 1) rfl (by kernel_rfl) (fun K hK => ?_)
    go_simp
    refine HC.out.mono ?_
    clear HC
    rintro e w7 ⟨rfl, hB⟩
    try go_wp2_with fail
    have B7 := Aside0.mk hB
    have T7 := Aside0.mk (T6.out.trans (hB.mono T6.out.size))
    clear hB
    have U7 := Aside0.mk (U6.out.trans (B7.out.mono U6.out.size))
    refine hK.out _ _ (HS6.out _ U7.out) (fun hHeld => ?_)
    clear hK K
    try simp only [Act.put, List.setIfInBounds_toArray, List.set_cons_zero, List.set_cons_succ]
    refine Inv.takeL (i := 6) (v := ?v7_6) rfl (by kernel_rfl) (by kernel_rfl) (by kernel_rfl) (fun _ _ _ h => h) (by rfl) ?hy7_6 (by assumption) ?rest7_6
    case hy7_6 => ((intro w hSw; (try dsimp only at hSw); go_simp) <;> with_reducible rfl)
    try simp only [Act.put, List.setIfInBounds_toArray, List.set_cons_zero, List.set_cons_succ]
    refine Inv.takeL (i := 7) (v := ?v7_7) rfl (by kernel_rfl) (by kernel_rfl) (by kernel_rfl) (fun _ _ _ h => h) (by rfl) ?hy7_7 (by assumption) ?rest7_7
    case hy7_7 => ((intro w hSw; (try dsimp only at hSw); go_simp) <;> with_reducible rfl)
    try simp only [Act.put, List.setIfInBounds_toArray, List.set_cons_zero, List.set_cons_succ]
    refine Inv.takeL (i := 8) (v := ?v7_8) rfl (by kernel_rfl) (by kernel_rfl) (by kernel_rfl) (fun _ _ _ h => h) (by rfl) ?hy7_8 (by assumption) ?rest7_8
    case hy7_8 => ((intro w hSw; (try dsimp only at hSw); go_simp) <;> with_reducible rfl)
    try simp only [Act.put, List.setIfInBounds_toArray, List.set_cons_zero, List.set_cons_succ]
    refine Inv.takeL (i := 9) (v := ?v7_9) rfl (by kernel_rfl) (by kernel_rfl) (by kernel_rfl) (fun _ _ _ h => h) (by rfl) ?hy7_9 (by assumption) ?rest7_9
    case hy7_9 => ((intro w hSw; (try dsimp only at hSw); go_simp) <;> with_reducible rfl)
    try simp only [Act.put, List.setIfInBounds_toArray, List.set_cons_zero, List.set_cons_succ]
    refine Inv.takeL (i := 10) (v := ?v7_10) rfl (by kernel_rfl) (by kernel_rfl) (by kernel_rfl) (fun _ _ _ h => h) (by rfl) ?hy7_10 (by assumption) ?rest7_10
    case hy7_10 => ((intro w hSw; (try dsimp only at hSw); go_simp) <;> with_reducible rfl)
    try simp only [Act.put, List.setIfInBounds_toArray, List.set_cons_zero, List.set_cons_succ]
    refine Inv.takeL (i := 11) (v := ?v7_11) rfl (by kernel_rfl) (by kernel_rfl) (by kernel_rfl) (fun _ _ _ h => h) (by rfl) ?hy7_11 (by assumption) ?rest7_11
    case hy7_11 => ((intro w hSw; (try dsimp only at hSw); go_simp) <;> with_reducible rfl)
    try simp only [Act.put, List.setIfInBounds_toArray, List.set_cons_zero, List.set_cons_succ]
    refine Inv.takeL (i := 12) (v := ?v7_12) rfl (by kernel_rfl) (by kernel_rfl) (by kernel_rfl) (fun _ _ _ h => h) (by rfl) ?hy7_12 (by assumption) ?rest7_12
    case hy7_12 => ((intro w hSw; (try dsimp only at hSw); go_simp) <;> with_reducible rfl)
    try simp only [Act.put, List.setIfInBounds_toArray, List.set_cons_zero, List.set_cons_succ]
    refine Inv.takeL (i := 13) (v := ?v7_13) rfl (by kernel_rfl) (by kernel_rfl) (by kernel_rfl) (fun _ _ _ h => h) (by rfl) ?hy7_13 (by assumption) ?rest7_13
    case hy7_13 => ((intro w hSw; (try dsimp only at hSw); go_simp) <;> with_reducible rfl)
    try simp only [Act.put, List.setIfInBounds_toArray, List.set_cons_zero, List.set_cons_succ]
    refine Inv.takeL (i := 14) (v := ?v7_14) rfl (by kernel_rfl) (by kernel_rfl) (by kernel_rfl) (fun _ _ _ h => h) (by rfl) ?hy7_14 (by assumption) ?rest7_14
    case hy7_14 => ((intro w hSw; (try dsimp only at hSw); go_simp) <;> with_reducible rfl)
    try simp only [Act.put, List.setIfInBounds_toArray, List.set_cons_zero, List.set_cons_succ]
    refine Inv.takeL (i := 15) (v := ?v7_15) rfl (by kernel_rfl) (by kernel_rfl) (by kernel_rfl) (fun _ _ _ h => h) (by rfl) ?hy7_15 (by assumption) ?rest7_15
    case hy7_15 => ((intro w hSw; (try dsimp only at hSw); go_simp) <;> with_reducible rfl)
    try simp only [Act.put, List.setIfInBounds_toArray, List.set_cons_zero, List.set_cons_succ]
    refine Inv.takeL (i := 16) (v := ?v7_16) rfl (by kernel_rfl) (by kernel_rfl) (by kernel_rfl) (fun _ _ _ h => h) (by rfl) ?hy7_16 (by assumption) ?rest7_16
    case hy7_16 => ((intro w hSw; (try dsimp only at hSw); go_simp) <;> with_reducible rfl)
    try simp only [Act.put, List.setIfInBounds_toArray, List.set_cons_zero, List.set_cons_succ]
    refine Inv.takeL (i := 17) (v := ?v7_17) rfl (by kernel_rfl) (by kernel_rfl) (by kernel_rfl) (fun _ _ _ h => h) (by rfl) ?hy7_17 (by assumption) ?rest7_17
    case hy7_17 => ((intro w hSw; (try dsimp only at hSw); go_simp) <;> with_reducible rfl)
    try simp only [Act.put, List.setIfInBounds_toArray, List.set_cons_zero, List.set_cons_succ]
    refine Inv.takeL (i := 18) (v := ?v7_18) rfl (by kernel_rfl) (by kernel_rfl) (by kernel_rfl) (fun _ _ _ h => h) (by rfl) ?hy7_18 (by assumption) ?rest7_18
    case hy7_18 => ((intro w hSw; (try dsimp only at hSw); go_simp) <;> with_reducible rfl)
    try simp only [Act.put, List.setIfInBounds_toArray, List.set_cons_zero, List.set_cons_succ]
    refine Inv.takeL (i := 19) (v := ?v7_19) rfl (by kernel_rfl) (by kernel_rfl) (by kernel_rfl) (fun _ _ _ h => h) (by rfl) ?hy7_19 (by assumption) ?rest7_19
    case hy7_19 => ((intro w hSw; (try dsimp only at hSw); go_simp) <;> with_reducible rfl)
    try simp only [Act.put, List.setIfInBounds_toArray, List.set_cons_zero, List.set_cons_succ]
    refine Inv.takeL (i := 20) (v := ?v7_20) rfl (by kernel_rfl) (by kernel_rfl) (by kernel_rfl) (fun _ _ _ h => h) (by rfl) ?hy7_20 (by assumption) ?rest7_20
    case hy7_20 => ((intro w hSw; (try dsimp only at hSw); go_simp) <;> with_reducible rfl)
    try simp only [Act.put, List.setIfInBounds_toArray, List.set_cons_zero, List.set_cons_succ]
    refine Inv.takeL (i := 21) (v := ?v7_21) rfl (by kernel_rfl) (by kernel_rfl) (by kernel_rfl) (fun _ _ _ h => h) (by rfl) ?hy7_21 (by assumption) ?rest7_21
    case hy7_21 => ((intro w hSw; (try dsimp only at hSw); go_simp) <;> with_reducible rfl)
    try simp only [Act.put, List.setIfInBounds_toArray, List.set_cons_zero, List.set_cons_succ]
    refine Inv.takeL (i := 22) (v := ?v7_22) rfl (by kernel_rfl) (by kernel_rfl) (by kernel_rfl) (fun _ _ _ h => h) (by rfl) ?hy7_22 (by assumption) ?rest7_22
    case hy7_22 => ((intro w hSw; (try dsimp only at hSw); go_simp) <;> with_reducible rfl)
    try simp only [Act.put, List.setIfInBounds_toArray, List.set_cons_zero, List.set_cons_succ]
    refine Inv.takeL (i := 23) (v := ?v7_23) rfl (by kernel_rfl) (by kernel_rfl) (by kernel_rfl) (fun _ _ _ h => h) (by rfl) ?hy7_23 (by assumption) ?rest7_23
    case hy7_23 => ((intro w hSw; (try dsimp only at hSw); go_simp) <;> with_reducible rfl)
    try simp only [Act.put, List.setIfInBounds_toArray, List.set_cons_zero, List.set_cons_succ]
    refine Inv.takeL (i := 24) (v := ?v7_24) rfl (by kernel_rfl) (by kernel_rfl) (by kernel_rfl) (fun _ _ _ h => h) (by rfl) ?hy7_24 (by assumption) ?rest7_24
    case hy7_24 => ((intro w hSw; (try dsimp only at hSw); go_simp) <;> with_reducible rfl)
    try simp only [Act.put, List.setIfInBounds_toArray, List.set_cons_zero, List.set_cons_succ]
    refine wpAnyH_done (by kernel_rfl) ?_ _
    go_wp2_with fail
    go_ret
    exact ⟨rfl, T7.out⟩
  ·
    obtain ⟨hq, B, N, D, hb1, hb2, hb3, hN9, hD9, hu⟩ := hq
    have HU := Aside0.mk hu
    have HB := Aside0.mk (And.intro hq (And.intro hb1 (And.intro hb2 hb3)))
    have HN9 := Aside0.mk hN9
    have HD9 := Aside0.mk hD9
    clear hq hb1 hb2 hb3 hu hN9 hD9
    have HC : Aside0 (Calls Tryd.prog 77 #[.string t] ((w1.alloc (.cells #[.string ⟨#[48]⟩, .string ⟨#[45, 48]⟩, .string ⟨#[52, 47, 50]⟩, .string ⟨#[45, 57, 47, 54]⟩, .string ⟨#[48, 47, 55]⟩, .string ⟨#[49, 47, 48]⟩, .string ⟨#[97]⟩, .string ⟨#[49, 47, 47, 50]⟩, .string ⟨#[]⟩, .string ⟨#[45]⟩, .string ⟨#[49, 47, 48, 50]⟩, .string ⟨#[53, 47, 49]⟩, .string ⟨#[43, 49]⟩, .string ⟨#[49, 48, 47, 52]⟩] 9)).alloc (.cells #[.string ⟨#[48]⟩, .string ⟨#[48]⟩, .string ⟨#[50]⟩, .string ⟨#[45, 51, 47, 50]⟩, .string ⟨#[48]⟩, .string ⟨#[122, 101, 114, 111]⟩, .string ⟨#[102, 111, 114, 109]⟩, .string ⟨#[102, 111, 114, 109]⟩, .string ⟨#[102, 111, 114, 109]⟩, .string ⟨#[102, 111, 114, 109]⟩, .string ⟨#[102, 111, 114, 109]⟩, .string ⟨#[53]⟩, .string ⟨#[102, 111, 114, 109]⟩, .string ⟨#[53, 47, 50]⟩] 9)) (R3PostE ((w1.alloc (.cells #[.string ⟨#[48]⟩, .string ⟨#[45, 48]⟩, .string ⟨#[52, 47, 50]⟩, .string ⟨#[45, 57, 47, 54]⟩, .string ⟨#[48, 47, 55]⟩, .string ⟨#[49, 47, 48]⟩, .string ⟨#[97]⟩, .string ⟨#[49, 47, 47, 50]⟩, .string ⟨#[]⟩, .string ⟨#[45]⟩, .string ⟨#[49, 47, 48, 50]⟩, .string ⟨#[53, 47, 49]⟩, .string ⟨#[43, 49]⟩, .string ⟨#[49, 48, 47, 52]⟩] 9)).alloc (.cells #[.string ⟨#[48]⟩, .string ⟨#[48]⟩, .string ⟨#[50]⟩, .string ⟨#[45, 51, 47, 50]⟩, .string ⟨#[48]⟩, .string ⟨#[122, 101, 114, 111]⟩, .string ⟨#[102, 111, 114, 109]⟩, .string ⟨#[102, 111, 114, 109]⟩, .string ⟨#[102, 111, 114, 109]⟩, .string ⟨#[102, 111, 114, 109]⟩, .string ⟨#[102, 111, 114, 109]⟩, .string ⟨#[53]⟩, .string ⟨#[102, 111, 114, 109]⟩, .string ⟨#[53, 47, 50]⟩] 9)) B (N) (D) 0)) := ⟨read_good HTZ.out HB.out.1 HB.out.2.1 HB.out.2.2.1 HB.out.2.2.2 (((MXL.out.below B1.out).below B2.out).below B3.out)⟩
    go_wp2_with fail
    refine HC.out.mono ?_
    clear HC
    rintro e w4 ⟨v_a, rfl, ⟨A_a, M_a, c_a, B_a, K_a, d_a, rfl, hNA, hNB⟩, hB⟩
    have B4 := Aside0.mk hB
    have T4 := Aside0.mk (T3.out.trans (hB.mono T3.out.size))
    have NA_a := Aside0.mk hNA
    have NB_a := Aside0.mk hNB
    clear hNA hNB hB
    have H_bx_a := Aside0.mk (Blk_alloc w4 (.bool B) (.slice A_a M_a c_a) (.slice B_a K_a d_a) 56)
    have B5 := Aside0.mk (below_alloc (Below.refl w4.heap.size w4) (.cells #[.bool B, .slice A_a M_a c_a, .slice B_a K_a d_a] 56))
    have T5 := Aside0.mk (T4.out.trans (B5.out.mono T4.out.size))
    have H_ra := Aside0.mk (show R3 (w4.alloc (.cells #[.bool B, .slice A_a M_a c_a, .slice B_a K_a d_a] 56)) (.agg #[(.bool B), (.slice A_a M_a c_a), (.slice B_a K_a d_a)]) B (N) (D) from R3.below (show R3 w4 (.agg #[(.bool B), (.slice A_a M_a c_a), (.slice B_a K_a d_a)]) B (N) (D) from ⟨_, _, _, _, _, _, rfl, NA_a.out, NB_a.out⟩) (below_alloc (Below.refl _ _) _))
    clear hct
    go_wp2_with fail
    have B6 := Aside0.mk (Below.drew (Below.refl (w4.alloc (.cells #[.bool B, .slice A_a M_a c_a, .slice B_a K_a d_a] 56)).heap.size (w4.alloc (.cells #[.bool B, .slice A_a M_a c_a, .slice B_a K_a d_a] 56))))
    have T6 := Aside0.mk (T5.out.trans (B6.out.mono T5.out.size))
    have HS6 := Aside0.mk (fun (W : World) (hW : Below ((w4.alloc (.cells #[.bool B, .slice A_a M_a c_a, .slice B_a K_a d_a] 56)).drew).heap.size ((w4.alloc (.cells #[.bool B, .slice A_a M_a c_a, .slice B_a K_a d_a] 56)).drew) W) => show W.cell? ⟨w4.heap.size, 0, none⟩ = some (.bool B) ∧ W.cell? ⟨w4.heap.size, 1, none⟩ = some (.slice A_a M_a c_a) ∧ W.cell? ⟨w4.heap.size, 2, none⟩ = some (.slice B_a K_a d_a) ∧ W.cell? ⟨w1.heap.size + 1, k, none⟩ = some (.string u) from ⟨((H_bx_a.out.below B6.out).below hW).1.1, ((H_bx_a.out.below B6.out).below hW).1.2.1, ((H_bx_a.out.below B6.out).below hW).1.2.2, ((((H_u.out.below B4.out).below B5.out).below B6.out).below hW)⟩)
    have U6 := Aside0.mk (Below.refl ((w4.alloc (.cells #[.bool B, .slice A_a M_a c_a, .slice B_a K_a d_a] 56)).drew).heap.size ((w4.alloc (.cells #[.bool B, .slice A_a M_a c_a, .slice B_a K_a d_a] 56)).drew))
    refine wp_region_held_drew (S := fun W => W.cell? ⟨w4.heap.size, 0, none⟩ = some (.bool B) ∧ W.cell? ⟨w4.heap.size, 1, none⟩ = some (.slice A_a M_a c_a) ∧ W.cell? ⟨w4.heap.size, 2, none⟩ = some (.slice B_a K_a d_a) ∧ W.cell? ⟨w1.heap.size + 1, k, none⟩ = some (.string u)) (by kernel_rfl) (HS6.out _ (Below.refl _ _)) (fun hHeld => ?_)
    refine Inv.takeL (i := 0) (v := ?v8_0) rfl (by kernel_rfl) (by kernel_rfl) (by kernel_rfl) (fun _ _ _ h => h) (by rfl) ?hy8_0 (by assumption) ?rest8_0
    case hy8_0 => ((intro w hSw; (try dsimp only at hSw); go_simp) <;> with_reducible rfl)
    try simp only [Act.put, List.setIfInBounds_toArray, List.set_cons_zero, List.set_cons_succ]
    refine Inv.takeL (i := 2) (v := ?v8_2) rfl (by kernel_rfl) (by kernel_rfl) (by kernel_rfl) (fun _ _ _ h => h) (by rfl) ?hy8_2 (by assumption) ?rest8_2
    case hy8_2 => ((intro w hSw; (try dsimp only at hSw); go_simp) <;> with_reducible rfl)
    try simp only [Act.put, List.setIfInBounds_toArray, List.set_cons_zero, List.set_cons_succ]
    refine Inv.takeL (i := 3) (v := ?v8_3) rfl (by kernel_rfl) (by kernel_rfl) (by kernel_rfl) (fun _ _ _ h => h) (by rfl) ?hy8_3 (by assumption) ?rest8_3
    case hy8_3 => ((intro w hSw; (try dsimp only at hSw); go_simp) <;> with_reducible rfl)
    try simp only [Act.put, List.setIfInBounds_toArray, List.set_cons_zero, List.set_cons_succ]
    refine Inv.takeL (i := 4) (v := ?v8_4) rfl (by kernel_rfl) (by kernel_rfl) (by kernel_rfl) (fun _ _ _ h => h) (by rfl) ?hy8_4 (by assumption) ?rest8_4
    case hy8_4 => ((intro w hSw; (try dsimp only at hSw); go_simp) <;> with_reducible rfl)
    try simp only [Act.put, List.setIfInBounds_toArray, List.set_cons_zero, List.set_cons_succ]
    refine Inv.takeL (i := 5) (v := ?v8_5) rfl (by kernel_rfl) (by kernel_rfl) (by kernel_rfl) (fun _ _ _ h => h) (by rfl) ?hy8_5 (by assumption) ?rest8_5
    case hy8_5 => ((intro w hSw; (try dsimp only at hSw); go_simp) <;> with_reducible rfl)
    try simp only [Act.put, List.setIfInBounds_toArray, List.set_cons_zero, List.set_cons_succ]
    have HC : Aside0 (Calls Tryd.prog 66 #[(.agg #[(.bool B), (.slice A_a M_a c_a), (.slice B_a K_a d_a)])] ((w4.alloc (.cells #[.bool B, .slice A_a M_a c_a, .slice B_a K_a d_a] 56)).drew) (TextPost ((w4.alloc (.cells #[.bool B, .slice A_a M_a c_a, .slice B_a K_a d_a] 56)).drew) (ratT B N D))) := ⟨qtext_w (H_ra.out.below B6.out) (pw_lt1000 (Nat.lt_of_lt_of_le HN9.out (show 10 ≤ pw 1 by decide)) (by omega)) (pw_lt1000 (Nat.lt_of_lt_of_le HD9.out (show 10 ≤ pw 1 by decide)) (by omega)) ((((((TAB.out.below B1.out).below B2.out).below B3.out).below B4.out).below B5.out).below B6.out)⟩
    refine Inv.oneL (i := 1) rfl (by kernel_rfl) (fun K hK => ?_)
    go_simp
    refine HC.out.mono ?_
    clear HC
    rintro e w7 ⟨s, rfl, hS, hB⟩; obtain rfl : s = u := (ByteArray.ext (Array.toList_inj.1 (hS.trans HU.out.symm))); clear hS
    try go_wp2_with fail
    have B7 := Aside0.mk hB
    have T7 := Aside0.mk (T6.out.trans (hB.mono T6.out.size))
    clear hB
    have U7 := Aside0.mk (U6.out.trans (B7.out.mono U6.out.size))
    refine hK.out _ _ (HS6.out _ U7.out) (fun hHeld => ?_)
    clear hK K
    try simp only [Act.put, List.setIfInBounds_toArray, List.set_cons_zero, List.set_cons_succ]
    refine Inv.takeL (i := 6) (v := ?v8_6) rfl (by kernel_rfl) (by kernel_rfl) (by kernel_rfl) (fun _ _ _ h => h) (by rfl) ?hy8_6 (by assumption) ?rest8_6
    case hy8_6 => ((intro w hSw; (try dsimp only at hSw); go_simp) <;> with_reducible rfl)
    try simp only [Act.put, List.setIfInBounds_toArray, List.set_cons_zero, List.set_cons_succ]
    refine Inv.takeL (i := 7) (v := ?v8_7) rfl (by kernel_rfl) (by kernel_rfl) (by kernel_rfl) (fun _ _ _ h => h) (by rfl) ?hy8_7 (by assumption) ?rest8_7
    case hy8_7 => ((intro w hSw; (try dsimp only at hSw); go_simp) <;> with_reducible rfl)
    try simp only [Act.put, List.setIfInBounds_toArray, List.set_cons_zero, List.set_cons_succ]
    refine wpAnyH_done (by kernel_rfl) ?_ _
    go_wp2_with fail
    go_ret
    exact ⟨rfl, T7.out⟩
end Go.Proofs.YtklhpobphloehaaDoor.ratKnown
