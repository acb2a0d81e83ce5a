/- The small machine's oracles of numbers alone are what their calls do. -/
import Derived.Test.YtpegcppeobndcaaGreatDoorAb
import Derived.Test.YtpegcppeobndcaaGreatDoorZa21
import Derived.Test.YtpegcppeobndcaaGreatDoorSF
import Derived.Test.YtpegcppeobndcaaGreatDoorS5
import Derived.Test.YtpegcppeobndcaaGreatDoorS6
import Derived.Test.YtpegcppeobndcaaGreatDoorS3
import Derived.Test.YtpegcppeobndcaaGreatDoorS1
set_option linter.unusedVariables false
namespace Go.Proofs.YtpegcppeobndcaaGreatDoor.Abs
open Go.RowKit YtpegcppeobndcaaGreatDoorW.PrintWords YtpegcppeobndcaaGreatDoorW.PrintLast Go.Proofs.YtpegcppeobndcaaGreatDoor.Nn Go.Proofs.YtpegcppeobndcaaGreatDoor.G
theorem base_below {W0 : World} {ρ : Ren} {A : AW} {w : World} (h : Base W0 ρ A w) : Below W0.heap.size W0 w :=
 ⟨h.os, h.tape, h.output, h.size, fun k hk => (h.keep k hk fun ⟨i, L, B, e, _⟩ => by cases e).1⟩
def OEnt (W0 : World) (f : FuncId) (g : Array Value → AW → Option (Value × AW)) : Prop := ∀ (args : Array Value) (A : AW) (v : Value) (A1 : AW), g args A = some (v, A1) → ∀ (ρ : Ren) (w : World) (args' : Array Value), AR ρ args args' → Rel ρ A w → Base W0 ρ A w →
 Calls Tryz.prog f args' w (fun e w1 => ∃ ρ1 v', e = .returned v' ∧ Rel ρ1 A1 w1 ∧ Fr ρ A w ρ1 A1 w1 ∧ VR ρ1 v v')
theorem AR.one {ρ : Ren} {a : Value} {args' : Array Value} (h : AR ρ ⟨[a]⟩ args') : ∃ a', args' = #[a'] ∧ VR ρ a a' := by
 obtain ⟨l⟩ := args'
 cases h with
 | cons h t => cases t; exact ⟨_, rfl, h⟩
theorem AR.two {ρ : Ren} {a b : Value} {args' : Array Value} (h : AR ρ ⟨[a, b]⟩ args') : ∃ a' b', args' = #[a', b'] ∧ VR ρ a a' ∧ VR ρ b b' := by
 obtain ⟨l⟩ := args'
 cases h with
 | cons h t =>
  cases t with
  | cons h2 t => cases t; exact ⟨_, _, rfl, h, h2⟩
theorem bnd_ok {x : Rat} (h : bndR x = true) : Rb 400 x := by
 unfold bndR at h
 rw [Bool.and_eq_true] at h
 exact ⟨Nat.lt_of_lt_of_le (Nat.le_of_ble_eq_true h.1) (pw_le Z5), Nat.lt_of_lt_of_le (Nat.le_of_ble_eq_true h.2) (pw_le Z5)⟩
theorem ent1 {W0 : World} {f : FuncId} {q : Rat → Rat} (hC : ∀ (w : World) (v : Value) (x y : Rat), y = q x → Ra w v x → Rb 400 x → Calls Tryz.prog f #[v] w (RaPost w y)) : OEnt W0 f (or1 q) := by
 intro args A v A1 h ρ w args' ha hr hb
 unfold or1 at h
 split at h
 ·rename_i a
  split at h
  ·rename_i x hx
   split at h
   ·rename_i hbx
    obtain ⟨a', rfl, va⟩ := ha.one
    generalize hy : q x = y at h
    have e := Option.some.inj h
    refine (hC w a' x y hy.symm (rdR_ok hr hx va) (bnd_ok hbx)).mono ?_
    rintro e1 w1 ⟨v', rfl, hv, hB⟩
    obtain ⟨ρ1, k1, k2, k3⟩ := back_num hr hv hB
    rw [e] at k1 k2 k3
    exact ⟨ρ1, v', rfl, k1, k2, k3⟩
   ·cases h
  ·cases h
 ·cases h
theorem ent2 {W0 : World} {f : FuncId} {q : Rat → Rat → Rat} (hC : ∀ (w : World) (v0 v1 : Value) (x y z : Rat), z = q x y → Ra w v0 x → Ra w v1 y → Rb 400 x → Rb 400 y → Calls Tryz.prog f #[v0, v1] w (RaPost w z)) : OEnt W0 f (or2 q) := by
 intro args A v A1 h ρ w args' ha hr hb
 unfold or2 at h
 split at h
 ·rename_i a b
  split at h
  ·rename_i x y hx hy
   split at h
   ·rename_i hbx
    rw [Bool.and_eq_true] at hbx
    obtain ⟨a', b', rfl, va, vb⟩ := ha.two
    generalize hz : q x y = z at h
    have e := Option.some.inj h
    refine (hC w a' b' x y z hz.symm (rdR_ok hr hx va) (rdR_ok hr hy vb) (bnd_ok hbx.1) (bnd_ok hbx.2)).mono ?_
    rintro e1 w1 ⟨v', rfl, hv, hB⟩
    obtain ⟨ρ1, k1, k2, k3⟩ := back_num hr hv hB
    rw [e] at k1 k2 k3
    exact ⟨ρ1, v', rfl, k1, k2, k3⟩
   ·cases h
  ·cases h
 ·cases h
theorem back_plain {ρ : Ren} {A : AW} {w w1 : World} (h : Rel ρ A w) {v : Value} (hv : VR ρ v v) (hb : Below w.heap.size w w1) : ∃ ρ1 v', Ending.returned v = .returned v' ∧ Rel ρ1 A w1 ∧ Fr ρ A w ρ1 A w1 ∧ VR ρ1 v v' := by
 obtain ⟨r1, f1⟩ := h.below hb
 exact ⟨ρ, v, rfl, r1, f1, hv⟩
theorem ent2v {W0 : World} {f : FuncId} {q : Rat → Rat → Value} (hp : ∀ x y ρ, VR ρ (q x y) (q x y)) (hC : ∀ (w : World) (v0 v1 : Value) (x y : Rat) (z : Value), z = q x y → Ra w v0 x → Ra w v1 y → Rb 400 x → Rb 400 y → Calls Tryz.prog f #[v0, v1] w (fun e w1 => e = .returned z ∧ Below w.heap.size w w1)) : OEnt W0 f (or2v q) := by
 intro args A v A1 h ρ w args' ha hr hb
 unfold or2v at h
 split at h
 ·rename_i a b
  split at h
  ·rename_i x y hx hy
   split at h
   ·rename_i hbx
    rw [Bool.and_eq_true] at hbx
    obtain ⟨a', b', rfl, va, vb⟩ := ha.two
    have hq := hp x y ρ
    generalize hz : q x y = z at h hq
    cases h
    refine (hC w a' b' x y _ hz.symm (rdR_ok hr hx va) (rdR_ok hr hy vb) (bnd_ok hbx.1) (bnd_ok hbx.2)).mono ?_
    rintro e1 w1 ⟨rfl, hB⟩
    exact back_plain hr hq hB
   ·cases h
  ·cases h
 ·cases h
theorem ent_quo {W0 : World} : OEnt W0 86 orQuo := by
 intro args A v A1 h ρ w args' ha hr hb
 unfold orQuo at h
 split at h
 ·rename_i a b
  split at h
  ·rename_i x y hx hy
   split at h
   ·rename_i hbx
    rw [Bool.and_eq_true, Bool.and_eq_true] at hbx
    obtain ⟨a', b', rfl, va, vb⟩ := ha.two
    have hy0 : y ≠ 0 := fun e => by
     have := of_decide_eq_true hbx.2
     rw [e] at this
     exact this rfl
    have hC := qquoR (rdR_ok hr hx va) (rdR_ok hr hy vb) (bnd_ok hbx.1.1) (bnd_ok hbx.1.2) hy0
    generalize hz : x / y = z at h hC
    cases h
    refine hC.mono ?_
    rintro e1 w1 ⟨v', rfl, hv, hB⟩
    obtain ⟨ρ1, k1, k2, k3⟩ := back_num hr hv hB
    exact Z59
   ·cases h
  ·cases h
 ·cases h
theorem ent_right {W0 : World} : OEnt W0 78 orRight := by
 intro args A v A1 h ρ w args' ha hr hb
 unfold orRight at h
 split at h
 ·rename_i a
  split at h
  ·rename_i x hx
   split at h
   ·rename_i hbx
    obtain ⟨a', rfl, va⟩ := ha.one
    cases h
    refine (qrightR (rdR_ok hr hx va) (bnd_ok hbx)).mono ?_
    rintro e1 w1 ⟨rfl, hB⟩
    exact back_plain hr (.bool _) hB
   ·cases h
  ·cases h
 ·cases h
theorem AR.three {ρ : Ren} {a b c : Value} {args' : Array Value} (h : AR ρ ⟨[a, b, c]⟩ args') : ∃ a' b' c', args' = #[a', b', c'] ∧ VR ρ a a' ∧ VR ρ b b' ∧ VR ρ c c' := by
 obtain ⟨l⟩ := args'
 cases h with
 | cons h t =>
  cases t with
  | cons h2 t =>
   cases t with
   | cons h3 t => cases t; exact ⟨_, _, _, rfl, h, h2, h3⟩
theorem bndN_ok {n : Nat} (h : bndN n = true) : n < pw 1000 := Nat.lt_of_lt_of_le (Nat.le_of_ble_eq_true h) (pw_le Z5)
theorem back_nat {ρ : Ren} {A : AW} {w w1 : World} (h : Rel ρ A w) {v' : Value} {n : Nat} (hn : Nu w1 v' n) (hb : Below w.heap.size w w1) : ∃ ρ1, Rel ρ1 (wrN A n).2 w1 ∧ Fr ρ A w ρ1 (wrN A n).2 w1 ∧ VR ρ1 (wrN A n).1 v' ∧ Ext ρ ρ1 := by
 obtain ⟨r1, f1⟩ := h.below hb
 obtain ⟨ρ1, r2, f2, v2, x2⟩ := wrN_ok r1 hn
 exact ⟨ρ1, r2, f1.trans f2, v2, x2⟩
theorem ent_n1k {W0 : World} {f : FuncId} {q : Nat → Nat → Nat} (hC : ∀ (w : World) (v : Value) (x k y : Nat), y = q x k → Nu w v x → x < pw 1000 → k < 1048576 → Calls Tryz.prog f #[v, .int .i64 (k : Int)] w (NuPost w y)) : OEnt W0 f (orN1k q) := by
 intro args A v A1 h ρ w args' ha hr hb
 unfold orN1k at h
 split at h
 ·rename_i a k
  split at h
  ·rename_i x hx
   split at h
   ·rename_i hbx
    rw [Bool.and_eq_true] at hbx
    obtain ⟨a', b', rfl, va, vb⟩ := ha.two
    cases vb
    generalize hz : q x k = z at h
    have e := Option.some.inj h
    refine (hC w a' x k z hz.symm (rdN_ok hr hx va) (bndN_ok hbx.1) (Nat.lt_of_le_of_lt (Nat.le_of_ble_eq_true hbx.2) Z5)).mono ?_
    rintro e1 w1 ⟨v', rfl, hv, hB⟩
    obtain ⟨ρ1, k1, k2, k3, _⟩ := back_nat hr hv hB
    rw [e] at k1 k2 k3
    exact ⟨ρ1, v', rfl, k1, k2, k3⟩
   ·cases h
  ·cases h
 ·cases h
theorem ent_subN {W0 : World} : OEnt W0 119 orSubN := by
 intro args A v A1 h ρ w args' ha hr hb
 unfold orSubN at h
 split at h
 ·rename_i a b
  split at h
  ·rename_i x y hx hy
   split at h
   ·rename_i hbx
    rw [Bool.and_eq_true, Bool.and_eq_true] at hbx
    obtain ⟨a', b', rfl, va, vb⟩ := ha.two
    have hle := Nat.le_of_ble_eq_true hbx.2
    have hC := subN (rdN_ok hr hx va) (rdN_ok hr hy vb) (bndN_ok hbx.1.1) (bndN_ok hbx.1.2)
    rw [if_neg (by omega)] at hC
    generalize hz : x - y = z at h hC
    cases h
    refine hC.mono ?_
    rintro e1 w1 ⟨v', rfl, hv, hB⟩
    obtain ⟨ρ1, k1, k2, k3, _⟩ := back_nat hr hv hB
    exact Z59
   ·cases h
  ·cases h
 ·cases h
theorem ent_divN {W0 : World} : OEnt W0 68 orDivN := by
 intro args A v A1 h ρ w args' ha hr hb
 unfold orDivN at h
 split at h
 ·rename_i a b
  split at h
  ·rename_i x y hx hy
   split at h
   ·rename_i hbx
    rw [Bool.and_eq_true, Bool.and_eq_true] at hbx
    obtain ⟨a', b', rfl, va, vb⟩ := ha.two
    have hle := Nat.le_of_ble_eq_true hbx.2
    have hC := divP (rdN_ok hr hx va) (rdN_ok hr hy vb) (bndN_ok hbx.1.1) (bndN_ok hbx.1.2) (by omega)
    generalize hz : x / y = z at h hC
    generalize hz2 : x % y = z2 at h hC
    cases h
    refine hC.mono ?_
    rintro e1 w1 ⟨vq, vr, rfl, hq, hr2, hB⟩
    obtain ⟨ρ1, k1, k2, k3, k4⟩ := back_nat hr hq hB
    obtain ⟨ρ2, m1, m2, m3, m4⟩ := wrN_ok k1 hr2
    exact ⟨ρ2, _, rfl, m1, k2.trans m2, .tupleL (.cons (k3.mono m4) (.cons m3 (.cons (.int _ _) .nil)))⟩
   ·cases h
  ·cases h
 ·cases h
theorem ent_make {W0 : World} : OEnt W0 23 orMake := by
 intro args A v A1 h ρ w args' ha hr hb
 unfold orMake at h
 split at h
 ·rename_i g a b
  split at h
  ·rename_i x y hx hy
   split at h
   ·rename_i hbx
    rw [Bool.and_eq_true, Bool.and_eq_true] at hbx
    obtain ⟨g', a', b', rfl, vg, va, vb⟩ := ha.three
    cases vg
    have h1 := Nat.le_of_ble_eq_true hbx.2
    have hd : y ≠ 0 := by omega
    have hC := qmake_w g (rdN_ok hr hx va) (rdN_ok hr hy vb) (bndN_ok hbx.1.1) (bndN_ok hbx.1.2) hd
    generalize hz : mkRat (sg g x) y = z at h
    cases h
    refine hC.mono ?_
    intro e1 w1 hp
    obtain ⟨v', rfl, hv, hB⟩ := low_ratE hd hz.symm hp
    obtain ⟨ρ1, k1, k2, k3⟩ := back_num hr hv hB
    exact Z59
   ·cases h
  ·cases h
 ·cases h
theorem ent_quoZ {W0 : World} : OEnt W0 86 orQuoZ := by
 intro args A v A1 h ρ w args' ha hr hb
 unfold orQuoZ at h
 split at h
 ·rename_i a b
  split at h
  ·rename_i x y hx hy
   split at h
   ·rename_i hbx
    rw [Bool.and_eq_true, Bool.and_eq_true] at hbx
    obtain ⟨a', b', rfl, va, vb⟩ := ha.two
    have hy0 : y = 0 := Rat.num_eq_zero.1 (of_decide_eq_true hbx.2)
    cases h
    refine (qquoR0 (rdR_ok hr hx va) (rdR_ok hr hy vb) (bnd_ok hbx.1.1) (bnd_ok hbx.1.2) hy0).mono ?_
    rintro e1 w1 ⟨v', rfl, hv, hB⟩
    obtain ⟨ρ1, k1, k2, k3⟩ := back_z hr hv hB
    exact Z59
   ·exact ent_quo _ _ _ _ h ρ w args' ha hr hb
  ·cases h
 ·cases h
theorem ent_int {W0 : World} : OEnt W0 14 orInt := by
 intro args A v A1 h ρ w args' ha hr hb
 unfold orInt at h
 split at h
 ·rename_i n
  split at h
  ·rename_i hbx
   rw [Bool.and_eq_true] at hbx
   obtain ⟨a', rfl, va⟩ := ha.one
   cases va
   have hC := sint_w n w (of_decide_eq_true hbx.1) (of_decide_eq_true hbx.2)
   rw [show (n : Rat) = mkRat n 1 from (Rat.mkRat_one n).symm] at hC
   generalize hz : mkRat n 1 = z at h hC
   have e := Option.some.inj h
   refine hC.mono ?_
   rintro e1 w1 ⟨v', rfl, hv, hB⟩
   obtain ⟨ρ1, k1, k2, k3⟩ := back_num hr hv hB
   rw [e] at k1 k2 k3
   exact ⟨ρ1, v', rfl, k1, k2, k3⟩
  ·cases h
 ·cases h
theorem orac_ok {W0 : World} : OOk Tryz.prog W0 orac := by
 intro f g h
 have key : OEnt W0 f g := by
  unfold orac at h
  split at h
  ·cases h; exact ent2 fun w v0 v1 x y z hz hx hy bx by_ => hz ▸ qaddR hx hy bx by_
  ·cases h; exact ent2 fun w v0 v1 x y z hz hx hy bx by_ => hz ▸ qsubR hx hy bx by_
  ·cases h; exact ent2 fun w v0 v1 x y z hz hx hy bx by_ => hz ▸ qmulR hx hy bx by_
  ·cases h; exact ent1 fun w v x y hy hx bx => hy ▸ qnegR hx bx
  ·cases h; exact ent1 fun w v x y hy hx bx => hy ▸ qabsR hx bx
  ·cases h; exact ent2v (fun _ _ _ => .int _ _) fun w v0 v1 x y z hz hx hy bx by_ => hz ▸ qcmpR hx hy bx by_
  ·cases h; exact ent2v (fun _ _ _ => .bool _) fun w v0 v1 x y z hz hx hy bx by_ => hz ▸ qsameR hx hy bx by_
  ·cases h; exact ent_quoZ
  ·cases h; exact ent_right
  ·cases h; exact ent_n1k fun w v x k y hz hx bx hk => hz ▸ shlN hx bx k hk
  ·cases h; exact ent_n1k fun w v x k y hz hx bx hk => hz ▸ shrN hx bx k hk
  ·cases h; exact ent_subN
  ·cases h; exact ent_divN
  ·cases h; exact ent_make
  ·cases h; exact ent_int
  ·cases h
 exact key
end Go.Proofs.YtpegcppeobndcaaGreatDoor.Abs
