/- Rational numbers: texts, and the laws' own functions: the small texts of this part, one behind another. -/
import Derived.Test.YtpegcppeobndcaaGreatDoorAb
import Derived.Deep.RegionHeld3
import Derived.WalkKit
import Derived.KernelRfl
import Derived.Test.YtpegcppeobndcaaGreatDoorS5
import Derived.Test.YtpegcppeobndcaaGreatDoorS4
set_option linter.unusedVariables false
set_option maxHeartbeats 4000000
set_option maxRecDepth 100000
namespace Go.Proofs.YtpegcppeobndcaaGreatDoor.Inv
section
variable {P : Program} {ops : Array Oper} {Q : Exit → Act → World → Prop} {md : Region.Mode}
def cnt (l : Array Bool) : Nat := l.toList.countP (fun b => !b)
def back (ops : Array Oper) : Bool := (List.range ops.size).all fun i => ((ops[i]?).map (·.after.all fun e => decide (e.on < i))).getD true
def waits (md : Region.Mode) (ops : Array Oper) (i j : Nat) : Bool := ((ops[i]?).map fun o => o.after.any fun e => Region.binds md e && e.on == j).getD false
end
section
variable {P : Program} {l : List Oper} {Q : Exit → Act → World → Prop} {md : Region.Mode} {S : World → Prop}
theorem at_list {i : Nat} {o : Oper} (h : l[i]? = some o) : l.toArray[i]? = some o := by simpa using h
theorem takeL {i : Nat} {oi : Oper} {v : Value} {fuel : Nat} {listed : Array Bool} {a : Act} {w : World} (hi : l[i]? = some oi)
  (hs : Region.noSelect l.toArray = true) (hf : Region.free md l.toArray listed i = true) (hr : (Region.ready md l.toArray listed).contains i = true)
  (hQ : ∀ c a w, Q (.panic c) (a.put oi.dst v) w → Q (.panic c) a w) (hw : Region.wanted oi (yielded l.toArray a.tmps) = true)
  (hy : ∀ w, S w → (execOp a.eval oi).run P w = .ok (.value v) w) (hS : S w)
  (h : wpAnyH P md l.toArray Q S fuel (listed.setIfInBounds i true) (a.put oi.dst v) w) : wpAnyH P md l.toArray Q S (fuel + 1) listed a w :=
 wpAnyH_take (at_list hi) hs hf hr hQ (Or.inl ⟨hw, hy⟩) hS h
theorem oneL {i : Nat} {o : Oper} {fuel : Nat} {listed : Array Bool} {a : Act} {w : World} (hi : l[i]? = some o) (hr : Region.ready md l.toArray listed = [i])
  (h : ∀ K' : Act → World → Prop, Shut (∀ a w, S w → (S w → wpAnyH P md l.toArray Q S fuel (listed.setIfInBounds i true) a w) → K' a w) → if Region.wanted o (yielded l.toArray a.tmps) = true then Oper.wp P o a w K' Q else K' (a.put o.dst undef) w) :
  wpAnyH P md l.toArray Q S (fuel + 1) listed a w := wpAnyH_ready hr Z33 (AllReadyH.cons (at_list hi) h AllReadyH.nil)
theorem tk (i : Nat) {oi : Oper} {v : Value} {fuel : Nat} {listed : Array Bool} {a : Act} {w : World} (hi : l[i]? = some oi := by rfl)
 (hs : Region.noSelect l.toArray = true := by kernel_rfl) (hf : Region.free md l.toArray listed i = true := by kernel_rfl) (hr : (Region.ready md l.toArray listed).contains i = true := by kernel_rfl)
 (hQ : ∀ c a w, Q (.panic c) (a.put oi.dst v) w → Q (.panic c) a w := by exact fun _ _ _ h => h) (hw : Region.wanted oi (yielded l.toArray a.tmps) = true := by rfl)
 (hy : ∀ w, S w → (execOp a.eval oi).run P w = .ok (.value v) w := by ((intro w hSw; (try dsimp only at hSw); go_simp) <;> with_reducible rfl)) (hS : S w := by assumption)
 (h : wpAnyH P md l.toArray Q S fuel (listed.setIfInBounds i true) (a.put oi.dst v) w) : wpAnyH P md l.toArray Q S (fuel + 1) listed a w := takeL hi hs hf hr hQ hw hy hS h
end
end Go.Proofs.YtpegcppeobndcaaGreatDoor.Inv
namespace Go.Proofs.YtpegcppeobndcaaGreatDoor.G
open Go.RowKit YtpegcppeobndcaaGreatDoorW.PrintWords YtpegcppeobndcaaGreatDoorW.PrintLast Go.Proofs.YtpegcppeobndcaaGreatDoor.Nn
def Ra (w : World) (v : Value) (x : Rat) : Prop := R3 w v (decide (x.num < 0)) x.num.natAbs x.den
def RaPost (w : World) (x : Rat) (e : Ending) (w' : World) : Prop := ∃ v, e = .returned v ∧ Ra w' v x ∧ Below w.heap.size w w'
def RaPostE (w : World) (x : Rat) (k : Int) (e : Ending) (w' : World) : Prop := ∃ v, e = .returned (.tuple #[v, .int .i64 k]) ∧ Ra w' v x ∧ Below w.heap.size w w'
def Rb (k : Nat) (x : Rat) : Prop := x.num.natAbs < pw k ∧ x.den < pw k
theorem Ra.below {w w1 : World} {v : Value} {x : Rat} (h : Ra w v x) (hb : Below w.heap.size w w1) : Ra w1 v x := R3.below h hb
theorem sg_num (n : Int) : sg (decide (n < 0)) n.natAbs = n := by
 unfold sg
 by_cases h : n < 0
 ·rw [decide_eq_true h, if_pos rfl]; omega
 ·rw [decide_eq_false h, if_neg Z5]; omega
theorem sg_abs (neg : Bool) (n : Nat) : (sg neg n).natAbs = n := by
 unfold sg
 cases neg <;> simp
theorem mk_canon (neg : Bool) (n : Nat) {d : Nat} (hd : d ≠ 0) : decide ((mkRat (sg neg n) d).num < 0) = (decide (n ≠ 0) && neg) ∧ (mkRat (sg neg n) d).num.natAbs = n / Nat.gcd n d ∧ (mkRat (sg neg n) d).den = d / Nat.gcd n d := by
 have hg : 0 < Nat.gcd n d := Nat.gcd_pos_of_pos_right _ (Nat.pos_of_ne_zero hd)
 have hdv : Nat.gcd n d * (n / Nat.gcd n d) = n := Nat.mul_div_cancel' (Nat.gcd_dvd_left n d)
 have hn : (mkRat (sg neg n) d).num = sg neg (n / Nat.gcd n d) := by
  rw [Rat.num_mkRat, if_neg hd, sg_abs, Nat.gcd_comm]
  unfold sg
  obtain ⟨g, hge⟩ : ∃ g, g = Nat.gcd n d := ⟨_, rfl⟩
  rw [← hge] at hg hdv ⊢
  obtain ⟨q, hq⟩ : ∃ q, q = n / g := ⟨_, rfl⟩
  rw [← hq] at hdv ⊢
  subst hdv
  have hgz : (g : Int) ≠ 0 := by omega
  cases neg with
  | false => simp only [Bool.false_eq_true, if_false]; rw [Int.natCast_mul, Int.mul_ediv_cancel_left _ hgz]
  | true => simp only [if_true]; rw [Int.natCast_mul, ← Int.mul_neg, Int.mul_ediv_cancel_left _ hgz]
 refine ⟨?_, by rw [hn, sg_abs], by rw [Rat.den_mkRat, if_neg hd, sg_abs, Nat.gcd_comm]⟩
 rw [hn]
 have hz : n / Nat.gcd n d = 0 ↔ n = 0 := by
  constructor
  ·intro h
   rw [h, Nat.mul_zero] at hdv
   exact hdv.symm
  ·intro h
   rw [h, Nat.zero_div]
 unfold sg
 by_cases h : n = 0
 ·rw [hz.2 h, h]
  cases neg <;> simp
 ·have : n / Nat.gcd n d ≠ 0 := fun e => h (hz.1 e)
  rw [decide_eq_true h]
  obtain ⟨q, hq⟩ : ∃ q, q = n / Nat.gcd n d := ⟨_, rfl⟩
  rw [← hq] at this ⊢
  cases neg
  ·simp only [Bool.false_eq_true, if_false, Bool.and_false, decide_eq_false_iff_not]; omega
  ·simp only [if_true, Bool.and_true, decide_eq_true_eq]; omega
theorem low_rat {w w' : World} {neg : Bool} {n d : Nat} {x : Rat} {e : Ending} (hd : d ≠ 0) (hx : x = mkRat (sg neg n) d) (h : LowPost w neg n d e w') : RaPost w x e w' := by
 obtain ⟨v, he, hR, hB⟩ := h
 obtain ⟨h1, h2, h3⟩ := mk_canon neg n hd
 subst hx
 exact ⟨v, he, by unfold Ra; rw [h1, h2, h3]; exact hR, hB⟩
theorem low_ratE {w w' : World} {neg : Bool} {n d : Nat} {x : Rat} {e : Ending} (hd : d ≠ 0) (hx : x = mkRat (sg neg n) d) (h : LowPostE w neg n d e w') : RaPostE w x 0 e w' := by
 obtain ⟨v, he, hR, hB⟩ := h
 obtain ⟨h1, h2, h3⟩ := mk_canon neg n hd
 subst hx
 exact ⟨v, he, by unfold Ra; rw [h1, h2, h3]; exact hR, hB⟩
theorem sg_mul (a b : Int) : sg (decide (a < 0) != decide (b < 0)) (a.natAbs * b.natAbs) = a * b := by
 rw [← Int.natAbs_mul, ← sg_num (a * b), sg_abs]
 unfold sg
 have h : a.natAbs * b.natAbs = (a * b).natAbs := (Int.natAbs_mul a b).symm
 by_cases ha : a < 0 <;> by_cases hb : b < 0
 ·have : ¬ a * b < 0 := Int.not_lt.2 (Int.mul_nonneg_of_nonpos_of_nonpos (Int.le_of_lt ha) (Int.le_of_lt hb))
  rw [decide_eq_true ha, decide_eq_true hb, decide_eq_false this]; rfl
 ·by_cases h0 : b = 0
  ·subst h0; simp
  ·have : a * b < 0 := Int.mul_neg_of_neg_of_pos ha (by omega)
   rw [decide_eq_true ha, decide_eq_false hb, decide_eq_true this]; rfl
 ·by_cases h0 : a = 0
  ·subst h0; simp
  ·have : a * b < 0 := Int.mul_neg_of_pos_of_neg (by omega) hb
   rw [decide_eq_false ha, decide_eq_true hb, decide_eq_true this]; rfl
 ·have : ¬ a * b < 0 := Int.not_lt.2 (Int.mul_nonneg (by omega) (by omega))
  rw [decide_eq_false ha, decide_eq_false hb, decide_eq_false this]; rfl
theorem abs_mulN (a : Int) (b : Nat) : ((a.natAbs * b : Nat) : Int) = if a < 0 then -(a * b) else a * b := by
 rw [Int.natCast_mul]
 by_cases h : a < 0
 ·rw [if_pos h, show (a.natAbs : Int) = -a from by omega, Int.neg_mul]
 ·rw [if_neg h, show (a.natAbs : Int) = a from by omega]
theorem sg_addz (a b : Int) (p q : Nat) : sg (addNeg (decide (a < 0)) (decide (b < 0)) (a.natAbs * q) (b.natAbs * p)) (addNum (decide (a < 0)) (decide (b < 0)) (a.natAbs * q) (b.natAbs * p)) = a * q + b * p := by
 have h1 := abs_mulN a q
 have h2 := abs_mulN b p
 obtain ⟨X, hX⟩ : ∃ X, X = a.natAbs * q := ⟨_, rfl⟩
 obtain ⟨Y, hY⟩ : ∃ Y, Y = b.natAbs * p := ⟨_, rfl⟩
 rw [← hX] at h1 ⊢
 rw [← hY] at h2 ⊢
 unfold sg addNeg addNum
 by_cases ha : a < 0 <;> by_cases hb : b < 0 <;> by_cases hxy : X < Y <;> simp [ha, hb, hxy] at h1 h2 ⊢ <;> omega
theorem qmulR {w : World} {v0 v1 : Value} {x y : Rat} (hx : Ra w v0 x) (hy : Ra w v1 y) (bx : Rb 400 x) (by_ : Rb 400 y) : Calls Tryz.prog 88 #[v0, v1] w (RaPost w (x * y)) :=
 (qmul_w hx hy bx.1 bx.2 by_.1 by_.2 x.den_nz y.den_nz).mono fun _ _ h => low_rat (Nat.mul_ne_zero x.den_nz y.den_nz) (by rw [Rat.mul_def', sg_mul]) h
theorem qaddR {w : World} {v0 v1 : Value} {x y : Rat} (hx : Ra w v0 x) (hy : Ra w v1 y) (bx : Rb 400 x) (by_ : Rb 400 y) : Calls Tryz.prog 87 #[v0, v1] w (RaPost w (x + y)) :=
 (qadd_w hx hy bx.1 bx.2 by_.1 by_.2 x.den_nz y.den_nz).mono fun _ _ h => low_rat (Nat.mul_ne_zero x.den_nz y.den_nz) (by rw [Rat.add_def', sg_addz]) h
theorem negB_num (a : Int) : negB (decide (a < 0)) a.natAbs = decide (-a < 0) := by
 unfold negB
 by_cases h : a < 0
 ·rw [decide_eq_true h, decide_eq_false (show ¬ -a < 0 by omega)]; rfl
 ·by_cases h0 : a = 0
  ·subst h0; rfl
  ·rw [decide_eq_false h, decide_eq_true (show a.natAbs ≠ 0 by omega), decide_eq_true (show -a < 0 by omega)]; rfl
theorem qnegR {w : World} {v0 : Value} {x : Rat} (hx : Ra w v0 x) (bx : Rb 400 x) : Calls Tryz.prog 136 #[v0] w (RaPost w (-x)) :=
 (qneg_w hx (pw_lt1000 bx.1 (by omega)) (pw_lt1000 bx.2 (by omega))).mono fun e w' ⟨v, he, hR, hB⟩ => ⟨v, he, by unfold Ra; rw [Rat.neg_num, Rat.neg_den, Int.natAbs_neg, ← negB_num]; exact hR, hB⟩
theorem qsubR {w : World} {v0 v1 : Value} {x y : Rat} (hx : Ra w v0 x) (hy : Ra w v1 y) (bx : Rb 400 x) (by_ : Rb 400 y) : Calls Tryz.prog 84 #[v0, v1] w (RaPost w (x - y)) :=
 (qsub_w hx hy bx.1 bx.2 by_.1 by_.2 x.den_nz y.den_nz).mono fun _ _ h => low_rat (Nat.mul_ne_zero x.den_nz y.den_nz) (by rw [Rat.sub_eq_add_neg, Rat.add_def', Rat.neg_num, Rat.neg_den, ← sg_addz, Int.natAbs_neg, negB_num]) h
def cmpQ (x y : Rat) : Int := if x < y then -1 else if x = y then 0 else 1
theorem cmpS_eq (x y : Rat) : cmpS (mkN (decide (x.num < 0)) x.num.natAbs) (mkZ x.num.natAbs) (mkN (decide (y.num < 0)) y.num.natAbs) (mkZ y.num.natAbs) (cmpZ (x.num.natAbs * y.den) (y.num.natAbs * x.den)) = cmpQ x y := by
 have h1 := abs_mulN x.num y.den
 have h2 := abs_mulN y.num x.den
 have hx0 : x.num.natAbs * y.den = 0 ↔ x.num = 0 := by rw [Nat.mul_eq_zero]; have := y.den_nz; omega
 have hy0 : y.num.natAbs * x.den = 0 ↔ y.num = 0 := by rw [Nat.mul_eq_zero]; have := x.den_nz; omega
 have hlt := Rat.lt_iff x y
 have heq := @Rat.eq_iff_mul_eq_mul x y
 have ha : x.num.natAbs = 0 ↔ x.num = 0 := by omega
 have hb : y.num.natAbs = 0 ↔ y.num = 0 := by omega
 obtain ⟨P, hP⟩ : ∃ P, P = x.num.natAbs * y.den := ⟨_, rfl⟩
 obtain ⟨Q, hQ⟩ : ∃ Q, Q = y.num.natAbs * x.den := ⟨_, rfl⟩
 obtain ⟨p, hp⟩ : ∃ p, p = x.num * (y.den : Int) := ⟨_, rfl⟩
 obtain ⟨q, hq⟩ : ∃ q, q = y.num * (x.den : Int) := ⟨_, rfl⟩
 rw [← hP] at h1 hx0 ⊢
 rw [← hQ] at h2 hy0 ⊢
 rw [← hp] at h1 hlt heq
 rw [← hq] at h2 hlt heq
 unfold cmpQ cmpS mkN mkZ cmpZ
 by_cases c1 : x.num < 0 <;> by_cases c2 : y.num < 0 <;> by_cases c3 : x.num = 0 <;> by_cases c4 : y.num = 0 <;> by_cases c5 : P < Q <;> by_cases c6 : P = Q <;> by_cases c7 : p < q <;> by_cases c8 : p = q <;>
  simp [ha, hb, hlt, heq, c1, c2, c3, c4, c5, c6, c7, c8] at h1 h2 hx0 hy0 ⊢ <;> omega
theorem qcmpR {w : World} {v0 v1 : Value} {x y : Rat} (hx : Ra w v0 x) (hy : Ra w v1 y) (bx : Rb 400 x) (by_ : Rb 400 y) : Calls Tryz.prog 44 #[v0, v1] w (IntPost w (cmpQ x y)) :=
 (qcmp_w hx hy bx.1 bx.2 by_.1 by_.2).mono fun e w' h => by unfold CmpPost at h; rw [cmpS_eq] at h; exact h
theorem quo_eq {x y : Rat} (hy : y ≠ 0) : x / y = mkRat (sg (decide (x.num < 0) != decide (y.num < 0)) (x.num.natAbs * y.den)) (x.den * y.num.natAbs) := by
 have hn : y.num ≠ 0 := fun h => hy (Rat.num_eq_zero.1 h)
 rw [Rat.div_def, Rat.inv_def]
 conv => lhs; rw [← Rat.num_divInt_den x]
 rw [Rat.divInt_mul_divInt]
 by_cases h : y.num < 0
 ·have e1 : (x.den : Int) * y.num = -((x.den * y.num.natAbs : Nat) : Int) := by rw [Int.natCast_mul, show (y.num.natAbs : Int) = -y.num by omega, Int.mul_neg, Int.neg_neg]
  rw [e1, Rat.divInt_neg', Rat.divInt_ofNat]
  congr 1
  have e2 := abs_mulN x.num y.den
  unfold sg
  by_cases hx : x.num < 0
  ·simp [hx, h] at e2 ⊢; omega
  ·simp [hx, h] at e2 ⊢; omega
 ·have e1 : (x.den : Int) * y.num = ((x.den * y.num.natAbs : Nat) : Int) := by rw [Int.natCast_mul, show (y.num.natAbs : Int) = y.num by omega]
  rw [e1, Rat.divInt_ofNat]
  congr 1
  have e2 := abs_mulN x.num y.den
  unfold sg
  by_cases hx : x.num < 0
  ·simp [hx, h] at e2 ⊢; omega
  ·simp [hx, h] at e2 ⊢; omega
theorem qquoR {w : World} {v0 v1 : Value} {x y : Rat} (hx : Ra w v0 x) (hy : Ra w v1 y) (bx : Rb 400 x) (by_ : Rb 400 y) (h0 : y ≠ 0) : Calls Tryz.prog 86 #[v0, v1] w (RaPostE w (x / y) 0) :=
 have hn : y.num.natAbs ≠ 0 := fun h => h0 (Rat.num_eq_zero.1 (by omega))
 (qquo_w hx hy bx.1 bx.2 by_.1 by_.2 x.den_nz hn).mono fun _ _ h => low_ratE (Nat.mul_ne_zero x.den_nz hn) (quo_eq h0) h
theorem qquoR0 {w : World} {v0 v1 : Value} {x y : Rat} (hx : Ra w v0 x) (hy : Ra w v1 y) (bx : Rb 400 x) (by_ : Rb 400 y) (h0 : y = 0) : Calls Tryz.prog 86 #[v0, v1] w (R3PostE w false 0 0 5) :=
 qquo0_w hx hy bx.1 bx.2 by_.1 by_.2 x.den_nz (by rw [h0]; rfl)
theorem qabsR {w : World} {v0 : Value} {x : Rat} (hx : Ra w v0 x) (bx : Rb 400 x) : Calls Tryz.prog 80 #[v0] w (RaPost w x.abs) :=
 (qabs_w hx (pw_lt1000 bx.1 (by omega)) (pw_lt1000 bx.2 (by omega))).mono fun e w' ⟨v, he, hR, hB⟩ => ⟨v, he, by
  unfold Ra
  have h : (decide (x.abs.num < 0)) = false ∧ x.abs.num.natAbs = x.num.natAbs ∧ x.abs.den = x.den := by
   unfold Rat.abs
   split
   ·rename_i h
    rw [← Rat.num_nonneg] at h
    exact ⟨decide_eq_false (by omega), rfl, rfl⟩
   ·rename_i h
    rw [← Rat.num_nonneg] at h
    rw [Rat.neg_num, Rat.neg_den, Int.natAbs_neg]
    exact ⟨decide_eq_false (by omega), rfl, rfl⟩
  rw [h.1, h.2.1, h.2.2]
  exact hR, hB⟩
def BoolPost (w : World) (b : Bool) (e : Ending) (w' : World) : Prop := e = .returned (.bool b) ∧ Below w.heap.size w w'
theorem qsameR {w : World} {v0 v1 : Value} {x y : Rat} (hx : Ra w v0 x) (hy : Ra w v1 y) (bx : Rb 400 x) (by_ : Rb 400 y) : Calls Tryz.prog 127 #[v0, v1] w (BoolPost w (decide (x = y))) := by
 have hx' := hx
 have hy' := hy
 obtain ⟨A0, L0, c0, A1, L1, c1, rfl, hn0, hd0'⟩ := hx
 obtain ⟨A2, L2, c2, A3, L3, c3, rfl, hn1, hd1'⟩ := hy
 obtain ⟨g0, hg0⟩ : ∃ b, b = decide (x.num < 0) := ⟨_, rfl⟩
 obtain ⟨g1, hg1⟩ : ∃ b, b = decide (y.num < 0) := ⟨_, rfl⟩
 rw [← hg0] at hx' ⊢
 rw [← hg1] at hy' ⊢
 have HW := Aside0.mk (below_alloc (below_alloc (Below.refl w.heap.size w) (.cells #[.bool g0, .slice A0 L0 c0, .slice A1 L1 c1] 27)) (.cells #[.bool g1, .slice A2 L2 c2, .slice A3 L3 c3] 27))
 obtain ⟨c, hc⟩ : ∃ c, c = cmpQ x y := ⟨_, rfl⟩
 have HC := Aside0.mk (qcmpR (hx'.below HW.out) (hy'.below HW.out) bx by_)
 rw [← hc] at HC
 obtain ⟨b, hb⟩ : ∃ b, b = decide (x = y) := ⟨_, rfl⟩
 have hcb : (c == 0) = b := by
  rw [hb, hc]
  unfold cmpQ
  by_cases h : x < y
  ·have : x ≠ y := Rat.ne_of_lt h
   simp [h, this]
  ·by_cases h2 : x = y
   ·simp [h2, Rat.lt_irrefl]
   ·simp [h, h2]
 rw [← hb]
 clear hn0 hn1 hd0' hd1' hx' hy' hc hb hg0 hg1
 go_enter Tryz.func127, Tryz.ntmps127
 go_wp2_with fail
 refine HC.out.mono ?_
 rintro e w1 ⟨rfl, hB⟩
 have HB := tT HW hB
 clear hB
 go_wp2_with fail
 go_ret
 exact ⟨by first | rfl | rw [hcb], HB.out⟩
end Go.Proofs.YtpegcppeobndcaaGreatDoor.G
namespace Go.Proofs.YtpegcppeobndcaaGreatDoor.G
open Go.RowKit YtpegcppeobndcaaGreatDoorW.PrintWords YtpegcppeobndcaaGreatDoorW.PrintLast Go.Proofs.YtpegcppeobndcaaGreatDoor.Nn
open Go.Lib (decDigits)
def ratT (g : Bool) (n d : Nat) : List UInt8 := (if g then [45] else []) ++ decDigits n ++ (if d = 1 then [] else 47 :: decDigits d)
theorem dig_len {n : Nat} (h : n < pw 1000) : (decDigits n).length ≤ 10668 := dec_len_pw (k := 10667) h Z5
theorem box0 (w : World) (x0 x1 x2 : Value) (t : TypeId) : ∃ (W0 : World), W0 = w.alloc (.cells #[x0, x1, x2] t) ∧ Aside0 (Blk W0 w.heap.size x0 x1 x2) ∧ Aside0 (Below w.heap.size w W0) :=
 ⟨_, rfl, ⟨Blk_alloc w x0 x1 x2 t⟩, ⟨below_alloc (Below.refl _ _) _⟩⟩
theorem cat_twoE (a b : ByteArray) (M : Nat) (h : a.size + b.size ≤ M) (hM : M ≤ 9223372036854775807) : ∃ c : ByteArray, ((∀ W : World, (Op.stringOp .add a b).run Tryz.prog W = .ok (.string c) W) ∧ c = a ++ b) ∧ c.size ≤ M :=
 ⟨a ++ b, ⟨fun W => run_string_add_sum W a b (by omega), rfl⟩, by rw [ByteArray.size_append']; exact h⟩
theorem qtext_w {w : World} {v0 : Value} {g : Bool} {n d : Nat} (h0 : R3 w v0 g n d) (b0 : n < pw 1000) (b1 : d < pw 1000) (hT : TabOk w) : Calls Tryz.prog 7 #[v0] w (TextPost w (ratT g n d)) := by
 obtain ⟨A0, L0, c0, A1, L1, c1, rfl, hn0, hd0⟩ := h0
 obtain ⟨W0, hW0, HK, HW⟩ := box0 w (.bool g) (.slice A0 L0 c0) (.slice A1 L1 c1) 27
 have HT1 : Aside0 (Calls Tryz.prog 26 #[.slice A0 L0 c0] W0 (TextPost W0 (decDigits n))) := ⟨textN (hn0.below HW.out) b0 (hT.below HW.out)⟩
 have H1 : Aside0 (∀ W : World, Calls Tryz.prog 28 #[] W (NuPost W 1)) := ⟨fun W => qone_w W⟩
 have HD := Aside0.mk hd0
 have BN := Aside0.mk b0
 have BD := Aside0.mk b1
 have HTB := Aside0.mk hT
 obtain ⟨zc, hzc⟩ : ∃ zc, zc = cmpZ d 1 := ⟨_, rfl⟩
 have HCM := Aside0.mk (fun (w1 W : World) (u2 : Value) (hB : Below w.heap.size w w1) (hW : Below w1.heap.size w1 W) (h : Nu W u2 1) => show Calls Tryz.prog 27 #[.slice A1 L1 c1, u2] W (fun e w' => e = .returned (.int .i64 zc) ∧ Aside0 (Below w1.heap.size w1 w')) from by
  have h := cmpN (HD.out.below (hB.trans (hW.mono hB.size))) h BD.out (pw_lt1000 (show 1 < pw 1 by decide) (by omega))
  exact h.mono fun _ _ k => ⟨by rw [hzc]; exact k.1, ⟨hW.trans (k.2.mono hW.size)⟩⟩)
 clear hn0 hd0 b0 b1 hT
 by_cases hd1 : d = 1
 ·have HD1 := Aside0.mk hd1
  have hz0 : zc = 0 := by rw [hzc, hd1]; exact cmpZ_eq rfl
  subst hz0
  clear hd1 hzc
  cases g with
  | true =>
   go_enter Tryz.func7, Tryz.ntmps7
   go_wp2_with fail
   rw [← hW0]
   clear hW0
   refine HT1.out.mono ?_
   rintro e w1 ⟨s, rfl, hs, hB1⟩
   have hsz : s.size ≤ 10668 := by rw [bytes_size hs]; exact dig_len BN.out
   have HSS := Aside0.mk hs
   have HB1 := tT HW hB1
   have HKA := Aside0.mk (fun (W : World) (hW : Below w1.heap.size w1 W) => show W.cell? ⟨w.heap.size, 2, none⟩ = some (.slice A1 L1 c1) from ((HK.out.below hB1).below hW).1.2.2)
   have HKB := Aside0.mk (fun (W : World) (hW : Below w1.heap.size w1 W) => show W.cell? ⟨w.heap.size, 0, none⟩ = some (.bool true) from ((HK.out.below hB1).below hW).1.1)
   clear hs hB1
   go_wp2_with fail
   go_region_held3 (fun W => W.cell? ⟨w.heap.size, 2, none⟩ = some (.slice A1 L1 c1)) (first | exact HKA.out _ (Below.drew (Below.refl _ _)) | exact HKA.out _ HB3.out | exact HKA.out _ HB2.out | exact HKA.out _ (Below.refl _ _))
    (first
     | (go_at_call 28; (with_reducible refine (H1.out _).mono ?_); rintro e w2 ⟨v2, rfl, hN2, hB2⟩; have HN2 := Aside0.mk hN2; have HB2 := Aside0.mk (show Below w1.heap.size w1 w2 from (Below.drew (Below.refl w1.heap.size w1)).trans hB2); clear hN2 hB2)
     | (go_at_call 27; (with_reducible refine (HCM.out w1 _ _ HB1.out HB2.out HN2.out).mono ?_); rintro e w3 ⟨rfl, HB3⟩))
   have hk0 := HKB.out _ HB3.out
   have hone2 : (⟨#[45]⟩ : ByteArray).size ≤ 1 := by decide
   obtain ⟨r1, hr1, zr1⟩ := cat_twoE ⟨#[45]⟩ s 30000 (by omega) Z5
   have hcat3 := hr1.1
   have HR1L := Aside0.mk hr1.2
   clear hr1
   go_wp2_with fail
   go_ret
   exact ⟨_, rfl, by rw [HR1L.out, str_app, HSS.out]; unfold ratT; rw [if_pos rfl, if_pos HD1.out]; simp, HB1.out.trans (HB3.out.mono HB1.out.size)⟩
  | false =>
   go_enter Tryz.func7, Tryz.ntmps7
   go_wp2_with fail
   rw [← hW0]
   clear hW0
   refine HT1.out.mono ?_
   rintro e w1 ⟨s, rfl, hs, hB1⟩
   have hsz : s.size ≤ 10668 := by rw [bytes_size hs]; exact dig_len BN.out
   have HSS := Aside0.mk hs
   have HB1 := tT HW hB1
   have HKA := Aside0.mk (fun (W : World) (hW : Below w1.heap.size w1 W) => show W.cell? ⟨w.heap.size, 2, none⟩ = some (.slice A1 L1 c1) from ((HK.out.below hB1).below hW).1.2.2)
   have HKB := Aside0.mk (fun (W : World) (hW : Below w1.heap.size w1 W) => show W.cell? ⟨w.heap.size, 0, none⟩ = some (.bool false) from ((HK.out.below hB1).below hW).1.1)
   clear hs hB1
   go_wp2_with fail
   go_region_held3 (fun W => W.cell? ⟨w.heap.size, 2, none⟩ = some (.slice A1 L1 c1)) (first | exact HKA.out _ (Below.drew (Below.refl _ _)) | exact HKA.out _ HB3.out | exact HKA.out _ HB2.out | exact HKA.out _ (Below.refl _ _))
    (first
     | (go_at_call 28; (with_reducible refine (H1.out _).mono ?_); rintro e w2 ⟨v2, rfl, hN2, hB2⟩; have HN2 := Aside0.mk hN2; have HB2 := Aside0.mk (show Below w1.heap.size w1 w2 from (Below.drew (Below.refl w1.heap.size w1)).trans hB2); clear hN2 hB2)
     | (go_at_call 27; (with_reducible refine (HCM.out w1 _ _ HB1.out HB2.out HN2.out).mono ?_); rintro e w3 ⟨rfl, HB3⟩))
   have hk0 := HKB.out _ HB3.out
   go_wp2_with fail
   go_ret
   exact ⟨_, rfl, by rw [HSS.out]; unfold ratT; rw [if_neg Z5, if_pos HD1.out]; simp, HB1.out.trans (HB3.out.mono HB1.out.size)⟩
 ·have HD1 := Aside0.mk hd1
  have hz0 : (zc == 0) = false := by rw [hzc]; exact cmpZ_ne hd1
  have hz1 : (zc != 0) = true := by rw [bne, hz0]; rfl
  clear hd1 hzc
  cases g with
  | true =>
   go_enter Tryz.func7, Tryz.ntmps7
   go_wp2_with fail
   rw [← hW0]
   clear hW0
   refine HT1.out.mono ?_
   rintro e w1 ⟨s, rfl, hs, hB1⟩
   have hsz : s.size ≤ 10668 := by rw [bytes_size hs]; exact dig_len BN.out
   have HSS := Aside0.mk hs
   have HB1 := tT HW hB1
   have HKA := Aside0.mk (fun (W : World) (hW : Below w1.heap.size w1 W) => show W.cell? ⟨w.heap.size, 2, none⟩ = some (.slice A1 L1 c1) from ((HK.out.below hB1).below hW).1.2.2)
   have HKB := Aside0.mk (fun (W : World) (hW : Below w1.heap.size w1 W) => show W.cell? ⟨w.heap.size, 0, none⟩ = some (.bool true) from ((HK.out.below hB1).below hW).1.1)
   clear hs hB1
   go_wp2_with fail
   go_region_held3 (fun W => W.cell? ⟨w.heap.size, 2, none⟩ = some (.slice A1 L1 c1)) (first | exact HKA.out _ (Below.drew (Below.refl _ _)) | exact HKA.out _ HB3.out | exact HKA.out _ HB2.out | exact HKA.out _ (Below.refl _ _))
    (first
     | (go_at_call 28; (with_reducible refine (H1.out _).mono ?_); rintro e w2 ⟨v2, rfl, hN2, hB2⟩; have HN2 := Aside0.mk hN2; have HB2 := Aside0.mk (show Below w1.heap.size w1 w2 from (Below.drew (Below.refl w1.heap.size w1)).trans hB2); clear hN2 hB2)
     | (go_at_call 27; (with_reducible refine (HCM.out w1 _ _ HB1.out HB2.out HN2.out).mono ?_); rintro e w3 ⟨rfl, HB3⟩))
   have hk2 := HKA.out _ HB3.out
   have HT3 : Aside0 (Calls Tryz.prog 26 #[.slice A1 L1 c1] w3 (TextPost w3 (decDigits d))) := ⟨textN (HD.out.below (HB1.out.trans (HB3.out.mono HB1.out.size))) BD.out (HTB.out.below (HB1.out.trans (HB3.out.mono HB1.out.size)))⟩
   go_wp2_with fail
   refine HT3.out.mono ?_
   rintro e w4 ⟨u, rfl, hu, hB4⟩
   have huz : u.size ≤ 10668 := by rw [bytes_size hu]; exact dig_len BD.out
   have HUU := Aside0.mk hu
   have HB4 := tT HB3 hB4
   have hone : (⟨#[47]⟩ : ByteArray).size ≤ 1 := by decide
   obtain ⟨u1, hu1, zu1⟩ := cat_twoE ⟨#[47]⟩ u 10669 (by omega) Z5
   obtain ⟨t1, ht1, zt1⟩ := cat_twoE s u1 21337 (by omega) Z5
   have HT1L := Aside0.mk (show t1.data.toList = decDigits n ++ 47 :: decDigits d by rw [ht1.2, hu1.2, str_app, str_app, HSS.out, HUU.out]; rfl)
   have hcat1 := hu1.1
   have hcat2 := ht1.1
   clear hu hB4 hk2 hu1 ht1
   have hk0 := HKB.out _ HB4.out
   have hone2 : (⟨#[45]⟩ : ByteArray).size ≤ 1 := by decide
   obtain ⟨r1, hr1, zr1⟩ := cat_twoE ⟨#[45]⟩ t1 30000 (by omega) Z5
   have hcat3 := hr1.1
   have HR1L := Aside0.mk hr1.2
   clear hr1
   go_wp2_with fail
   go_ret
   exact ⟨_, rfl, by rw [HR1L.out, str_app, HT1L.out]; unfold ratT; rw [if_pos rfl, if_neg HD1.out]; simp, HB1.out.trans (HB4.out.mono HB1.out.size)⟩
  | false =>
   go_enter Tryz.func7, Tryz.ntmps7
   go_wp2_with fail
   rw [← hW0]
   clear hW0
   refine HT1.out.mono ?_
   rintro e w1 ⟨s, rfl, hs, hB1⟩
   have hsz : s.size ≤ 10668 := by rw [bytes_size hs]; exact dig_len BN.out
   have HSS := Aside0.mk hs
   have HB1 := tT HW hB1
   have HKA := Aside0.mk (fun (W : World) (hW : Below w1.heap.size w1 W) => show W.cell? ⟨w.heap.size, 2, none⟩ = some (.slice A1 L1 c1) from ((HK.out.below hB1).below hW).1.2.2)
   have HKB := Aside0.mk (fun (W : World) (hW : Below w1.heap.size w1 W) => show W.cell? ⟨w.heap.size, 0, none⟩ = some (.bool false) from ((HK.out.below hB1).below hW).1.1)
   clear hs hB1
   go_wp2_with fail
   go_region_held3 (fun W => W.cell? ⟨w.heap.size, 2, none⟩ = some (.slice A1 L1 c1)) (first | exact HKA.out _ (Below.drew (Below.refl _ _)) | exact HKA.out _ HB3.out | exact HKA.out _ HB2.out | exact HKA.out _ (Below.refl _ _))
    (first
     | (go_at_call 28; (with_reducible refine (H1.out _).mono ?_); rintro e w2 ⟨v2, rfl, hN2, hB2⟩; have HN2 := Aside0.mk hN2; have HB2 := Aside0.mk (show Below w1.heap.size w1 w2 from (Below.drew (Below.refl w1.heap.size w1)).trans hB2); clear hN2 hB2)
     | (go_at_call 27; (with_reducible refine (HCM.out w1 _ _ HB1.out HB2.out HN2.out).mono ?_); rintro e w3 ⟨rfl, HB3⟩))
   have hk2 := HKA.out _ HB3.out
   have HT3 : Aside0 (Calls Tryz.prog 26 #[.slice A1 L1 c1] w3 (TextPost w3 (decDigits d))) := ⟨textN (HD.out.below (HB1.out.trans (HB3.out.mono HB1.out.size))) BD.out (HTB.out.below (HB1.out.trans (HB3.out.mono HB1.out.size)))⟩
   go_wp2_with fail
   refine HT3.out.mono ?_
   rintro e w4 ⟨u, rfl, hu, hB4⟩
   have huz : u.size ≤ 10668 := by rw [bytes_size hu]; exact dig_len BD.out
   have HUU := Aside0.mk hu
   have HB4 := tT HB3 hB4
   have hone : (⟨#[47]⟩ : ByteArray).size ≤ 1 := by decide
   obtain ⟨u1, hu1, zu1⟩ := cat_twoE ⟨#[47]⟩ u 10669 (by omega) Z5
   obtain ⟨t1, ht1, zt1⟩ := cat_twoE s u1 21337 (by omega) Z5
   have HT1L := Aside0.mk (show t1.data.toList = decDigits n ++ 47 :: decDigits d by rw [ht1.2, hu1.2, str_app, str_app, HSS.out, HUU.out]; rfl)
   have hcat1 := hu1.1
   have hcat2 := ht1.1
   clear hu hB4 hk2 hu1 ht1
   have hk0 := HKB.out _ HB4.out
   go_wp2_with fail
   go_ret
   exact ⟨_, rfl, by rw [HT1L.out]; unfold ratT; rw [if_neg Z5, if_neg HD1.out]; simp, HB1.out.trans (HB4.out.mono HB1.out.size)⟩
def mkR (g : Bool) (l0 l1 : List Int) : Rat := mkRat (sg g (mk l0 3)) (if mk l1 3 = 0 then 1 + (digs (mk l0 3)).length else mk l1 3)
theorem litU (w : World) (k : Nat) (hk : 0 < k) (hk2 : k < 4294967296) : Nu (w.alloc (.cells #[.int .u32 (k : Int)] 94)) (.slice (some ⟨w.heap.size, 0, none⟩) 1 1) k := by
 have h : RU (w.alloc (.cells #[.int .u32 (k : Int)] 94)) w.heap.size (.slice (some ⟨w.heap.size, 0, none⟩) 1 1) [(k : Int)] := RU_own (own_lit w w.heap.size 94 .u32 [(k : Int)] (Nat.le_refl _) Z33)
 have e : digs k = [(k : Int)] := by rw [digs_pos (by omega), Nat.mod_eq_of_lt hk2, Nat.div_eq_of_lt hk2, digs_zero]
 obtain ⟨A, c, ev, hc, hC⟩ := RU_slice h
 cases ev
 exact ⟨_, _, by rw [e]; rfl, by rw [e]; exact hc, by rw [e]; exact hC⟩
theorem sint_w (n : Int) (w : World) (h0 : -9223372036854775808 ≤ n) (h1 : n ≤ 9223372036854775807) : Calls Tryz.prog 14 #[.int .i64 n] w (RaPost w (n : Rat)) := by
 have HW := Aside0.mk (below_alloc (Below.refl w.heap.size w) (.cells #[.bool false, .slice none 0 0, .slice none 0 0] 27))
 have HK := Aside0.mk (Blk_alloc w (.bool false) (.slice none 0 0) (.slice none 0 0) 27)
 have HO : Aside0 (∀ W : World, Calls Tryz.prog 39 #[.int .i64 n, .int .i64 1] W (RaPostE W (n : Rat) 0)) := ⟨fun W => (sof_w n 1 W h0 h1 Z5 Z5).mono fun e w' h => by
  unfold OfPost at h
  rw [if_neg Z5] at h
  refine low_ratE Z5 ?_ h
  rw [show (decide (n < 0) != decide ((1 : Int) < 0)) = decide (n < 0) by simp, sg_num, show (1 : Int).natAbs = 1 from rfl]
  exact (Rat.mkRat_self (n : Rat)).symm⟩
 clear h0 h1
 go_enter Tryz.func14, Tryz.ntmps14
 go_wp2_with fail
 refine (HO.out _).mono ?_
 rintro e w1 ⟨v, rfl, ⟨A2, L2, c2, A3, L3, c3, rfl, h1, h2⟩, hB⟩
 obtain ⟨g, hg⟩ : ∃ g, g = decide ((n : Rat).num < 0) := ⟨_, rfl⟩
 obtain ⟨⟨hc0, hc1, hc2⟩, hf0, hf1, hf2⟩ := (HK.out.below hB).below (below_alloc (Below.refl _ _) (.cells #[.bool g, .slice A2 L2 c2, .slice A3 L3 c3] 27))
 have HWB := Aside0.mk (below_alloc (Below.refl w1.heap.size w1) (.cells #[.bool g, .slice A2 L2 c2, .slice A3 L3 c3] 27))
 have HD := Aside0.mk (r3_done (neg := g) HW.out (Nat.le_refl _) HK.out (hB.trans (HWB.out.mono hB.size)) (h1.below HWB.out) (h2.below HWB.out))
 have HG := Aside0.mk hg
 rw [← hg]
 clear hg h1 h2 hB
 go_wp2_with fail
 exact bodyPost_ret (v := .agg #[.bool g, .slice A2 L2 c2, .slice A3 L3 c3]) (by simp [results, Tryz.results14, go_sem, *]) rfl ⟨_, rfl, by unfold Ra; rw [← HG.out]; exact HD.out.1, HD.out.2⟩
end Go.Proofs.YtpegcppeobndcaaGreatDoor.G
namespace Go.Proofs.YtpegcppeobndcaaGreatDoor.G
open Go.RowKit YtpegcppeobndcaaGreatDoorW.PrintWords YtpegcppeobndcaaGreatDoorW.PrintLast Go.Proofs.YtpegcppeobndcaaGreatDoor.Nn
theorem qrightN {w : World} {v : Value} {n : Nat} (h : Nu w v n) : Calls Tryz.prog 128 #[v] w (fun e w' => e = .returned (.bool true) ∧ w = w') := by
 obtain ⟨A, c, rfl, h1, h2⟩ := h
 have h := right_w A c (digs n) w h2
 rwa [rightB_norm (norm_digs n)] at h
theorem qrightR {w : World} {v0 : Value} {x : Rat} (hx : Ra w v0 x) (bx : Rb 400 x) : Calls Tryz.prog 78 #[v0] w (BoolPost w true) := by
 have hred := x.reduced
 have hden := x.den_nz
 obtain ⟨A0, L0, c0, A1, L1, c1, rfl, hn0, hd0⟩ := hx
 obtain ⟨g, hg⟩ : ∃ b, b = decide (x.num < 0) := ⟨_, rfl⟩
 rw [← hg]
 obtain ⟨n, hn⟩ : ∃ n, n = x.num.natAbs := ⟨_, rfl⟩
 obtain ⟨d, hd⟩ : ∃ d, d = x.den := ⟨_, rfl⟩
 have bn : n < pw 1000 := by rw [hn]; exact Nat.lt_of_lt_of_le bx.1 (pw_le Z5)
 have bd : d < pw 1000 := by rw [hd]; exact Nat.lt_of_lt_of_le bx.2 (pw_le Z5)
 have hgn : n = 0 → g = false := fun h => by rw [hg, decide_eq_false]; omega
 rw [← hn] at hn0 hred
 rw [← hd] at hd0 hred hden
 have hgcd : Nat.gcd n d = 1 := hred
 obtain ⟨W0, hW0, HK, HW⟩ := box0 w (.bool g) (.slice A0 L0 c0) (.slice A1 L1 c1) 27
 have hl := Nu_len0 hn0
 have hLp : 0 < L1 := Nat.pos_of_ne_zero fun h => hden ((Nu_len0 hd0).1 h)
 have hb1 : ((L1 : Int) == 0) = false := by rw [beq_eq_false_iff_ne]; omega
 have hb2 : (L1 == 0) = false := by rw [beq_eq_false_iff_ne]; omega
 have HR1 : Aside0 (Calls Tryz.prog 128 #[.slice A0 L0 c0] W0 (fun e w' => e = .returned (.bool true) ∧ W0 = w')) := ⟨qrightN (hn0.below HW.out)⟩
 have HR2 : Aside0 (Calls Tryz.prog 128 #[.slice A1 L1 c1] W0 (fun e w' => e = .returned (.bool true) ∧ W0 = w')) := ⟨qrightN (hd0.below HW.out)⟩
 have HGC : Aside0 (Calls Tryz.prog 99 #[.slice A0 L0 c0, .slice A1 L1 c1] W0 (NuPost W0 1)) := ⟨by have h := gcdN (hn0.below HW.out) (hd0.below HW.out) bn bd; rw [hgcd] at h; exact h⟩
 have H1 : Aside0 (∀ W : World, Calls Tryz.prog 28 #[] W (NuPost W 1)) := ⟨fun W => qone_w W⟩
 have HD := Aside0.mk hd0
 have BD := Aside0.mk bd
 have HGD := Aside0.mk hgcd
 have HKA := Aside0.mk (fun (W : World) (hW : Below W0.heap.size W0 W) => show W.cell? ⟨w.heap.size, 0, none⟩ = some (.bool g) ∧ W.cell? ⟨w.heap.size, 2, none⟩ = some (.slice A1 L1 c1) from ⟨(HK.out.below hW).1.1, (HK.out.below hW).1.2.2⟩)
 have HCM := Aside0.mk (fun (W : World) (u2 : Value) (hW : Below W0.heap.size W0 W) (h : Nu W u2 1) (hd1 : d = 1) => show Calls Tryz.prog 27 #[.slice A1 L1 c1, u2] W (fun e w' => e = .returned (.int .i64 0) ∧ Aside0 (Below W0.heap.size W0 w')) from by
  have h := cmpN (HD.out.below (HW.out.trans (hW.mono HW.out.size))) h (pw_lt1000 BD.out (by omega)) (pw_lt1000 (show 1 < pw 1 by decide) (by omega))
  rw [cmpZ_eq hd1] at h
  exact h.mono fun _ _ k => ⟨k.1, ⟨hW.trans (k.2.mono hW.size)⟩⟩)
 obtain ⟨⟨hc0, hc1, hc2⟩, hf0, hf1, hf2⟩ := HK.out
 clear hn hd hg bx hred bn bd hden hn0 hd0 hgcd
 by_cases h0 : n = 0
 ·have hL : L0 = 0 := hl.2 h0
  have hgf := hgn h0
  subst hL hgf
  have HD1 := Aside0.mk (show d = 1 by have h := HGD.out; rw [h0, Nat.gcd_zero_left] at h; exact h)
  clear hl h0 hgn
  go_enter Tryz.func78, Tryz.ntmps78
  go_wp2_with fail
  rw [← hW0]
  clear hW0
  refine HR1.out.mono ?_
  rintro e wx ⟨rfl, hw⟩
  subst hw
  go_wp2_with fail
  refine HR2.out.mono ?_
  rintro e wx ⟨rfl, hw⟩
  subst hw
  go_wp2_with fail
  go_region_held3 (fun W => W.cell? ⟨w.heap.size, 0, none⟩ = some (.bool false) ∧ W.cell? ⟨w.heap.size, 2, none⟩ = some (.slice A1 L1 c1)) (first | exact HKA.out _ (Below.drew (Below.refl _ _)) | exact HKA.out _ HB3.out | exact HKA.out _ HB2.out | exact HKA.out _ (Below.refl _ _))
   (first
    | (go_at_call 28; (with_reducible refine (H1.out _).mono ?_); rintro e w2 ⟨v2, rfl, hN2, hB2⟩; have HN2 := Aside0.mk hN2; have HB2 := Aside0.mk (show Below W0.heap.size W0 w2 from (Below.drew (Below.refl W0.heap.size W0)).trans hB2); clear hN2 hB2)
    | (go_at_call 27; (with_reducible refine (HCM.out _ _ HB2.out HN2.out HD1.out).mono ?_); rintro e w3 ⟨rfl, HB3⟩))
  go_wp2_with fail
  go_ret
  exact ⟨rfl, HW.out.trans (HB3.out.mono HW.out.size)⟩
 ·have hLq : 0 < L0 := Nat.pos_of_ne_zero fun h => h0 (hl.1 h)
  have hb3 : ((L0 : Int) == 0) = false := by rw [beq_eq_false_iff_ne]; omega
  have hb4 : (L0 == 0) = false := by rw [beq_eq_false_iff_ne]; omega
  clear hl h0 hgn
  go_enter Tryz.func78, Tryz.ntmps78
  go_wp2_with fail
  rw [← hW0]
  clear hW0
  refine HR1.out.mono ?_
  rintro e wx ⟨rfl, hw⟩
  subst hw
  go_wp2_with fail
  refine HR2.out.mono ?_
  rintro e wx ⟨rfl, hw⟩
  subst hw
  go_wp2_with fail
  refine HGC.out.mono ?_
  rintro e w1 ⟨v1, rfl, hN1, hB1⟩
  have HN1 := Aside0.mk hN1
  have HB1 := tT HW hB1
  clear hN1 hB1
  go_wp2_with fail
  refine (H1.out _).mono ?_
  rintro e w2 ⟨v2, rfl, hN2, hB2⟩
  have HCM : Aside0 (Calls Tryz.prog 27 #[v1, v2] w2 (IntPost w2 0)) := ⟨by have h := cmpN (HN1.out.below hB2) hN2 (pw_lt1000 (show 1 < pw 1 by decide) (by omega)) (pw_lt1000 (show 1 < pw 1 by decide) (by omega)); rwa [cmpZ_eq rfl] at h⟩
  have HB2 := tT HB1 hB2
  clear hN2 hB2
  go_wp2_with fail
  refine HCM.out.mono ?_
  rintro e w3 ⟨rfl, hB3⟩
  have HB3 := tT HB2 hB3
  clear hB3
  go_wp2_with fail
  go_ret
  exact ⟨rfl, HB3.out⟩
def BoxE (w : World) (p : Nat) : Prop := ∃ (x : Bool) (A1 : Option Addr) (L1 c1 : Nat) (A2 : Option Addr) (L2 c2 : Nat), Blk w p (.bool x) (.slice A1 L1 c1) (.slice A2 L2 c2)
def Boxed (w : World) (p : Nat) (v : Value) : Prop := ∃ (x : Bool) (A1 : Option Addr) (L1 c1 : Nat) (A2 : Option Addr) (L2 c2 : Nat), v = .agg #[.bool x, .slice A1 L1 c1, .slice A2 L2 c2] ∧ Blk w p (.bool x) (.slice A1 L1 c1) (.slice A2 L2 c2)
def put3 (w : World) (q : Nat) (a b c : Value) : World := ((w.setCell ⟨q, 0, none⟩ a).setCell ⟨q, 1, none⟩ b).setCell ⟨q, 2, none⟩ c
def J (w0 : World) (x : Rat) (cl al st : Bool) (sC sA : Value) (p : Nat) (w : World) : Prop :=
 (cl = true → Ra w sC x) ∧ (al = true → sA = .pointer (some ⟨p, 0, none⟩) ∧ w0.heap.size ≤ p ∧ BoxE w p) ∧ (st = true → cl = true ∧ al = true ∧ Boxed w p sC)
def rawB (g : Bool) (l0 l1 : List Int) : Bool := rightB l0 && (rightB l1 && (decide (l1.length ≠ 0) && ((decide (l0.length ≠ 0) || !g) && (Nat.gcd (val l0) (val l1) == 1))))
end Go.Proofs.YtpegcppeobndcaaGreatDoor.G
