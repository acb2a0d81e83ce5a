/- The small machine's oracles: numbers that lie in both worlds. -/
import Derived.Test.YtpegcppeobndcaaGreatDoorAb
import Derived.Test.YtpegcppeobndcaaGreatDoorSD
import Derived.Test.YtpegcppeobndcaaGreatDoorZa2
import Derived.Test.YtpegcppeobndcaaGreatDoorS6
set_option linter.unusedVariables false
namespace Go.Proofs.YtpegcppeobndcaaGreatDoor.Abs
open Go.RowKit YtpegcppeobndcaaGreatDoorW.PrintWords YtpegcppeobndcaaGreatDoorW.PrintLast Go.Proofs.YtpegcppeobndcaaGreatDoor.Nn Go.Proofs.YtpegcppeobndcaaGreatDoor.G
theorem limL_digs : ∀ (f n : Nat), n < 2 ^ f → (limL f n).map (fun (x : Nat) => (x : Int)) = digs n
 | 0, n, h => by
  have : n = 0 := by omega
  subst this
  rw [digs_zero]; rfl
 | f + 1, 0, h => by rw [digs_zero]; rfl
 | f + 1, m + 1, h => by
  rw [digs_pos (by omega)]
  simp only [limL, List.map_cons]
  rw [limL_digs f ((m + 1) / 4294967296) (by rw [Nat.pow_succ] at h; have := Nat.two_pow_pos f; omega)]
theorem limbs_digs (n : Nat) : (limbs n).map (fun (x : Nat) => (x : Int)) = digs n := limL_digs _ _ Nat.lt_log2_self
theorem valL_val : ∀ l : List Nat, val (l.map fun (x : Nat) => (x : Int)) = valL l
 | [] => rfl
 | x :: l => by
  simp only [List.map_cons, val, valL]
  rw [valL_val l, Int.toNat_natCast]
theorem u32s_ok : ∀ (l : List Value) (r : List Nat), u32s l = some r → l = r.map (fun (x : Nat) => Value.int .u32 (x : Int)) ∧ ∀ x ∈ r, x ≤ 4294967295
 | [], r, h => by cases h; exact ⟨rfl, fun x hx => by cases hx⟩
 | v :: l, r, h => by
  unfold u32s at h
  split at h
  ·rename_i heq; cases heq
  ·rename_i x l2 heq
   cases heq
   split at h
   ·rename_i r2 hx hr2
    cases h
    obtain ⟨h1, h2⟩ := u32s_ok l r2 hr2
    refine ⟨by rw [List.map_cons, ← h1]; rfl, fun y hy => ?_⟩
    rcases List.mem_cons.1 hy with rfl | hy
    ·exact Nat.le_of_ble_eq_true hx
    ·exact h2 y hy
   ·cases h
  ·cases h
theorem cell_open {w : World} {a : Addr} {v : Value} (h : w.cell? a = some v) : a.spot = none ∧ ∃ c e fr, w.heap[a.block]? = some (.cells c e fr) ∧ c[a.off]? = some v := by
 unfold World.cell? at h
 split at h
 ·rename_i c e fr hc
  split at h
  ·cases h
  ·rename_i hs
   exact ⟨by cases hs' : a.spot <;> simp_all, c, e, fr, hc, h⟩
 ·cases h
theorem cells_at {A : AW} {a : Addr} {l : Nat} {c : List Value} (h : A.cells? a l = some c) : a.spot = none ∧ c.length = l ∧ ∃ c0 ro kd, A.get a.block = some (.cells c0 ro kd) ∧ ∀ j, j < l → c0[a.off + j]? = c[j]? := by
 unfold AW.cells? at h
 split at h
 ·rename_i c0 ro kd hs hg
  split at h
  ·rename_i hl
   cases h
   refine ⟨hs, by rw [List.length_take, List.length_drop]; omega, c0, ro, kd, hg, fun j hj => ?_⟩
   rw [List.getElem?_take_of_lt hj, List.getElem?_drop]
  ·cases h
 ·cases h
theorem rdL_ok {ρ : Ren} {A : AW} {w : World} (hr : Rel ρ A w) {i k l n : Nat} {L : Loc} (hL : ρ i = some L) (h : rdL A ⟨i, k, none⟩ l = some n) (hb : l ≤ 1000) (h0 : 0 < l) : (digs n).length = l ∧ CU w (some ⟨L.b, L.o + k, none⟩) l (digs n) := by
 unfold rdL at h
 split at h
 ·rename_i c hc
  split at h
  ·rename_i r hr2
   split at h
   ·rename_i m hm
    cases h
    obtain ⟨h1, h2⟩ := u32s_ok c r hr2
    obtain ⟨_, hlen, c0, ro, kd, hg, hat⟩ := cells_at hc
    have hrl : r.length = l := by rw [← hlen, h1, List.length_map]
    have hLim : Lim (r.map fun (x : Nat) => (x : Int)) := fun x hx => by
     obtain ⟨y, hy, rfl⟩ := List.mem_map.1 hx
     have := h2 y hy
     omega
    have hNorm : Norm (r.map fun (x : Nat) => (x : Int)) := by
     unfold Norm
     rw [List.getLast?_eq_getElem?] at hm
     rw [List.getD_eq_getElem?_getD, List.length_map, List.getElem?_map, hm]
     simp
     omega
    have hd : digs (valL r) = r.map fun (x : Nat) => (x : Int) := by rw [← valL_val, digs_val hLim hNorm]
    rw [hd]
    refine ⟨by rw [List.length_map]; exact hrl, reads_CU ⟨by rw [List.length_map]; exact hrl, by omega, fun _ => ⟨_, rfl, fun j hj => ?_⟩⟩⟩
    have hB := hr.blk i L _ hL hg
    obtain ⟨_, hB | ⟨c', e', fr, ho, hcs, _⟩⟩ := hB
    ·obtain ⟨hB0, _⟩ := hB
     have := hat j hj
     rw [hB0, List.getElem?_eq_getElem (show j < c.length by omega)] at this
     simp at this
    ·have h3 := hat j hj
     have h4 : c[j]? = some (.int .u32 ((r[j]'(by omega) : Nat) : Int)) := by
      have h5 : r[j]? = some (r[j]'(by omega)) := List.getElem?_eq_getElem _
      have h6 := congrArg (fun l : List Value => l[j]?) h1
      simp only [List.getElem?_map, h5] at h6
      exact h6
     obtain ⟨v', hv', hvr⟩ := hcs _ _ (h3.trans h4)
     cases hvr
     have e1 : (Addr.add ⟨L.b, L.o + k, none⟩ j) = ⟨L.b, L.o + (k + j), none⟩ := by
      unfold Addr.add
      split
      ·rename_i hj0; subst hj0; rfl
      ·simp [Nat.add_assoc]
     rw [e1]
     unfold World.cell?
     simp only [ho]
     rw [List.getD_eq_getElem?_getD, List.getElem?_map, List.getElem?_eq_getElem (by omega)]
     simpa using hv'
   ·cases h
  ·cases h
 ·cases h
theorem Nu_none {w : World} {a : Option Addr} {c : Nat} : Nu w (.slice a 0 c) 0 := by
 refine ⟨a, c, by rw [digs_zero]; rfl, by rw [digs_zero]; exact Nat.zero_le _, ?_⟩
 rw [digs_zero]
 exact reads_CU ⟨rfl, by simp, fun h => absurd h (Nat.lt_irrefl 0)⟩
theorem rdN_ok {ρ : Ren} {A : AW} {w : World} (hr : Rel ρ A w) {v v' : Value} {n : Nat} (h : rdN A v = some n) (hv : VR ρ v v') : Nu w v' n := by
 unfold rdN at h
 split at h
 ·split at h
  ·cases h
   cases hv
   exact Nu_none
  ·cases h
 ·rename_i a l c
  split at h
  ·rename_i hl
   have : l = 0 := Nat.eq_of_beq_eq_true hl
   subst this
   cases h
   cases hv <;> exact Nu_none
  ·rename_i hl
   split at h
   ·rename_i hlc
    rw [Bool.and_eq_true] at hlc
    have h1 := Nat.le_of_ble_eq_true hlc.1
    have h2 := Nat.le_of_ble_eq_true hlc.2
    have h0 : 0 < l := Nat.pos_of_ne_zero fun e => hl (by rw [e]; rfl)
    cases hv with
    | sexact _ _ hL hk =>
     obtain ⟨g1, g2⟩ := rdL_ok hr hL h h2 h0
     exact ⟨_, c, by rw [g1], by rw [g1]; exact h1, by rw [g1]; exact g2⟩
    | sloose _ _ c' e hL hk hc hroom =>
     obtain ⟨g1, g2⟩ := rdL_ok hr hL h h2 h0
     exact ⟨_, c', by rw [g1], by rw [g1]; omega, by rw [g1]; exact g2⟩
    | sempty => exact absurd h0 (Nat.lt_irrefl 0)
    | svoid => exact absurd h0 (Nat.lt_irrefl 0)
   ·cases h
 ·cases h
theorem rdR_ok {ρ : Ren} {A : AW} {w : World} (hr : Rel ρ A w) {v v' : Value} {x : Rat} (h : rdR A v = some x) (hv : VR ρ v v') : Ra w v' x := by
 unfold rdR at h
 split at h
 ·rename_i g n d
  split at h
  ·rename_i n0 d0 hn hd
   simp only at h
   split at h
   ·rename_i hc
    cases h
    simp only [Bool.and_eq_true, beq_iff_eq, Nat.beq_eq] at hc
    obtain ⟨⟨c1, c2⟩, c3⟩ := hc
    cases hv with
    | @agg _ a' ha hall =>
     obtain ⟨la⟩ := a'
     have hlen : la.length = 3 := by simpa using ha.symm
     match la, hlen, hall with
     | [b, n', d'], _, hall =>
      have k0 := hall 0 Z33 Z33
      have k1 := hall 1 Z33 Z33
      have k2 := hall 2 Z33 Z33
      simp at k0 k1 k2
      cases k0
      obtain ⟨A1, L1, d1, e1, u1⟩ := Nu_open (rdN_ok hr hn k1)
      obtain ⟨A2, L2, d2, e2, u2⟩ := Nu_open (rdN_ok hr hd k2)
      subst e1 e2
      unfold Ra R3
      refine ⟨A1, L1, d1, A2, L2, d2, ?_, ?_, ?_⟩
      ·rw [c1]
      ·rw [c2]; exact u1
      ·rw [c3]; exact u2
   ·cases h
  ·cases h
 ·cases h
theorem Rel.below {ρ : Ren} {A : AW} {w w1 : World} (h : Rel ρ A w) (hb : Below w.heap.size w w1) : Rel ρ A w1 ∧ Fr ρ A w ρ A w1 :=
 ⟨⟨h.dom, h.fresh, fun i L B h1 h2 => by
   cases hs : solid B with
   | true => rw [hb.block _ (h.lt h1 h2 hs)]; exact h.blk i L B h1 h2
   | false => exact (h.blk i L B h1 h2).hollow hs, h.sep⟩,
  ⟨fun _ _ => rfl, Nat.le_refl _, hb.os, hb.tape, hb.output, hb.size, fun k hk hl => ⟨hb.block k hk, hl⟩⟩⟩
theorem wrN_ok {ρ : Ren} {A : AW} {w : World} (h : Rel ρ A w) {v' : Value} {n : Nat} (hn : Nu w v' n) : ∃ ρ1, Rel ρ1 (wrN A n).2 w ∧ Fr ρ A w ρ1 (wrN A n).2 w ∧ VR ρ1 (wrN A n).1 v' ∧ Ext ρ ρ1 := by
 obtain ⟨Ad, c, rfl, hc, hC⟩ := hn
 have hR := CU_reads hC
 have hl : (limbs n).length = (digs n).length := by rw [← limbs_digs n, List.length_map]
 cases hd : digs n with
 | nil =>
  have h0 : limbs n = [] := List.eq_nil_of_length_eq_zero (by rw [hl, hd]; rfl)
  obtain ⟨r1, r2⟩ := h.add (w1 := w) ⟨0, 0, .loose 1, 0⟩ (.cells [] true (.loose 1)) (Nat.le_refl _) (fun _ _ => rfl) ⟨rfl, .inl ⟨rfl, rfl⟩⟩ (fun hm => by simp [mutB] at hm) (fun _ hs => by simp [solid] at hs) rfl rfl rfl
  have e1 : wrN A n = (.slice (some ⟨A.next, 0, none⟩) 0 0, A.add (.cells [] true (.loose 1))) := by unfold wrN; rw [h0]; rfl
  rw [e1]
  exact ⟨_, r1, r2, .sempty (L := ⟨0, 0, .loose 1, 0⟩) c 1 Ad (by simp [Ren.up]) rfl, h.up_ext _⟩
 | cons d0 dl =>
  have hpos : 0 < (digs n).length := by rw [hd]; simp
  obtain ⟨ad, hAd, hcell⟩ := hR.2.2 hpos
  subst hAd
  have hc0 := hcell 0 hpos
  have e0 : ad.add 0 = ad := by simp [Addr.add]
  rw [e0] at hc0
  obtain ⟨hs, cs, el, fr, hheap, hcs⟩ := cell_open hc0
  obtain ⟨ab, ao, asp⟩ := ad
  simp only at hs hheap hcs
  subst hs
  have hcellj : ∀ j, j < (digs n).length → cs[ao + j]? = some (.int .u32 ((digs n).getD j 0)) := fun j hj => by
   have := hcell j hj
   have e1 : (Addr.add ⟨ab, ao, none⟩ j) = ⟨ab, ao + j, none⟩ := by
    unfold Addr.add
    split
    ·rename_i hj0; subst hj0; rfl
    ·rfl
   rw [e1] at this
   unfold World.cell? at this
   simp only [hheap] at this
   simpa using this
  have hblk : CellsR (ρ.up A.next ⟨ab, ao, .loose 1, c⟩) ⟨ab, ao, .loose 1, c⟩ ((limbs n).map fun (x : Nat) => Value.int .u32 x) true (.loose 1) w.heap[ab]? := by
   refine ⟨cs, el, fr, hheap, fun j v hj => ?_, fun hro => by cases hro⟩
   have hjl : j < (digs n).length := by
    rcases Nat.lt_or_ge j (digs n).length with h' | h'
    ·exact h'
    ·rw [List.getElem?_eq_none (by rw [List.length_map, hl]; exact h')] at hj; cases hj
   refine ⟨v, ?_, ?_⟩
   ·rw [hcellj j hjl, ← hj, List.getElem?_map, List.getElem?_eq_getElem (by omega), ← limbs_digs n, List.getD_eq_getElem?_getD, List.getElem?_map, List.getElem?_eq_getElem (by omega)]
    rfl
   ·rw [List.getElem?_map, List.getElem?_eq_getElem (by omega)] at hj
    cases hj
    exact .int _ _
  obtain ⟨r1, r2⟩ := h.add (w1 := w) ⟨ab, ao, .loose 1, c⟩ (.cells ((limbs n).map fun (x : Nat) => Value.int .u32 x) true (.loose 1)) (Nat.le_refl _) (fun _ _ => rfl) ⟨rfl, .inr hblk⟩ (fun hm => by simp [mutB] at hm) (fun _ _ j M C h1 h2 h3 e => by
   have hB := h.blk j M C h1 h2
   cases C with
   | cells c1 ro kd =>
    cases ro with
    | true => simp [mutB] at h3
    | false =>
     obtain ⟨_, ⟨_, hf⟩ | ⟨c', e', fr', ho, _, hm⟩⟩ := hB
     ·cases hf
     ·obtain ⟨_, _, _, hno⟩ := hm rfl
      rw [e, hheap] at ho
      cases ho
      have := hno _ _ (hcellj 0 hpos)
      simp [isU32] at this
   | map es =>
    obtain ⟨es', clk, ho, _⟩ := hB
    rw [e, hheap] at ho
    cases ho
   | iter s p =>
    have ho := hB.2
    rw [e, hheap] at ho
    cases ho) rfl rfl rfl
  refine ⟨_, r1, r2, ?_, h.up_ext _⟩
  have e2 : (limbs n).length = (digs n).length := hl
  unfold wrN
  simp only
  rw [e2, ← hd]
  have := VR.sloose (ρ := ρ.up A.next ⟨ab, ao, .loose 1, c⟩) (i := A.next) (k := 0) (L := ⟨ab, ao, .loose 1, c⟩) (digs n).length (digs n).length c 1 (by simp [Ren.up]) rfl hc Z33
  simpa using this
theorem wrR_ok {ρ : Ren} {A : AW} {w : World} (h : Rel ρ A w) {v' : Value} {x : Rat} (hx : Ra w v' x) : ∃ ρ1, Rel ρ1 (wrR A x).2 w ∧ Fr ρ A w ρ1 (wrR A x).2 w ∧ VR ρ1 (wrR A x).1 v' := by
 obtain ⟨A1, L1, c1, A2, L2, c2, rfl, h1, h2⟩ := hx
 obtain ⟨ρ1, r1, f1, v1, x1⟩ := wrN_ok h h1
 obtain ⟨ρ2, r2, f2, v2, x2⟩ := wrN_ok r1 h2
 refine ⟨ρ2, r2, f1.trans f2, ?_⟩
 refine .agg Z33 fun j g1 g2 => ?_
 have hj : j < 3 := by simpa using g1
 match j, hj with
 | 0, _ => exact .bool _
 | 1, _ => exact v1.mono x2
 | 2, _ => exact v2
theorem back_num {ρ : Ren} {A : AW} {w w1 : World} (h : Rel ρ A w) {v' : Value} {x : Rat} (hx : Ra w1 v' x) (hb : Below w.heap.size w w1) : ∃ ρ1, Rel ρ1 (wrR A x).2 w1 ∧ Fr ρ A w ρ1 (wrR A x).2 w1 ∧ VR ρ1 (wrR A x).1 v' := by
 obtain ⟨r1, f1⟩ := h.below hb
 obtain ⟨ρ1, r2, f2, v2⟩ := wrR_ok r1 hx
 exact ⟨ρ1, r2, f1.trans f2, v2⟩
theorem wrZ_ok {ρ : Ren} {A : AW} {w : World} (h : Rel ρ A w) {v' : Value} (hx : R3 w v' false 0 0) : ∃ ρ1, Rel ρ1 (wrZ A).2 w ∧ Fr ρ A w ρ1 (wrZ A).2 w ∧ VR ρ1 (wrZ A).1 v' := by
 obtain ⟨A1, L1, c1, A2, L2, c2, rfl, h1, h2⟩ := hx
 obtain ⟨ρ1, r1, f1, v1, x1⟩ := wrN_ok h h1
 obtain ⟨ρ2, r2, f2, v2, x2⟩ := wrN_ok r1 h2
 refine ⟨ρ2, r2, f1.trans f2, ?_⟩
 refine .agg Z33 fun j g1 g2 => ?_
 have hj : j < 3 := by simpa using g1
 match j, hj with
 | 0, _ => exact .bool _
 | 1, _ => exact v1.mono x2
 | 2, _ => exact v2
theorem back_z {ρ : Ren} {A : AW} {w w1 : World} (h : Rel ρ A w) {v' : Value} (hx : R3 w1 v' false 0 0) (hb : Below w.heap.size w w1) : ∃ ρ1, Rel ρ1 (wrZ A).2 w1 ∧ Fr ρ A w ρ1 (wrZ A).2 w1 ∧ VR ρ1 (wrZ A).1 v' := by
 obtain ⟨r1, f1⟩ := h.below hb
 obtain ⟨ρ1, r2, f2, v2⟩ := wrZ_ok r1 hx
 exact ⟨ρ1, r2, f1.trans f2, v2⟩
end Go.Proofs.YtpegcppeobndcaaGreatDoor.Abs
