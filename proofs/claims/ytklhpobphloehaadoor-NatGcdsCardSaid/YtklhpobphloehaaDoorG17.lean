/- clear and copy over limbs of the call's own; a place of long division, whole. -/
import Derived.Test.YtklhpobphloehaaDoorG16
import Derived.Test.YtklhpobphloehaaDoorG13
import Derived.Test.YtklhpobphloehaaDoorKnuth
import Derived.Lib.SliceRun
set_option linter.unusedVariables false
namespace Go.Proofs.YtklhpobphloehaaDoor.G
open Go.RowKit Go.Proofs.YtklhpobphloehaaDoorW.PrintWords Go.Proofs.YtklhpobphloehaaDoorW.PrintLast Go.Proofs.YtklhpobphloehaaDoor.Nn

/-- Limbs laid over limbs, from a place on. -/
def ov : List Int → Nat → List Int → List Int
  | l, _, [] => l
  | l, o, v :: vs => ov (l.set o v) (o + 1) vs
theorem ov_length (vs : List Int) : ∀ (l : List Int) (o : Nat), (ov l o vs).length = l.length := by
  induction vs with
  | nil => intro l o; rfl
  | cons v vs ih => intro l o; rw [ov, ih, List.length_set]
theorem ov_eq (vs : List Int) : ∀ (l : List Int) (o : Nat), o + vs.length ≤ l.length → ov l o vs = l.take o ++ (vs ++ l.drop (o + vs.length)) := by
  induction vs with
  | nil => intro l o _; rw [ov, List.nil_append, List.length_nil, Nat.add_zero, List.take_append_drop]
  | cons v vs ih =>
    intro l o h
    simp only [List.length_cons] at h
    rw [ov, ih (l.set o v) (o + 1) (by rw [List.length_set]; omega), List.take_succ_eq_append_getElem (by rw [List.length_set]; omega), List.getElem_set_self, List.take_set, List.set_eq_of_length_le (by rw [List.length_take]; omega), List.drop_set_of_lt (by omega)]
    simp [List.append_assoc, Nat.add_assoc, Nat.add_comm 1]
theorem RU_setCells {base g n cap : Nat} (vs : List Int) : ∀ {w : World} {l : List Int} (o : Nat), RU w base (.slice (some ⟨g, 0, none⟩) n cap) l → l.length = n → RU (w.setCells g o (nums .u32 vs)) base (.slice (some ⟨g, 0, none⟩) n cap) (ov l o vs) := by
  induction vs with
  | nil => intro w l o h hn; exact h
  | cons v vs ih =>
    intro w l o h hn
    exact ih (o + 1) (RU_set h hn o v) (by rw [List.length_set]; exact hn)
theorem tch_setCells {g : Nat} (vs : List Value) : ∀ {a w : World} (o : Nat), Tch g a w → Tch g a (w.setCells g o vs) := by
  induction vs with
  | nil => intro a w o h; exact h
  | cons v vs ih => intro a w o h; exact ih (o + 1) (tch_set h o v)
theorem nums_at {vs : List Int} {j : Nat} {v : Value} (h : (nums .u32 vs)[j]? = some v) : j < vs.length ∧ v = .int .u32 (vs.getD j 0) := by
  unfold nums at h
  rw [List.getElem?_map] at h
  cases hq : vs[j]? with
  | none => rw [hq] at h; cases h
  | some x =>
    rw [hq] at h
    refine ⟨(List.getElem?_eq_some_iff.1 hq).1, ?_⟩
    rw [List.getD_eq_getElem?_getD, hq]
    exact (Option.some.inj h).symm
theorem infoU1 : (Tryd.prog.info? 54).map (·.size) = some 1 := by kernel_rfl
theorem clear_ex {W : World} {base g n : Nat} {l : List Int} (h : RU W base (.slice (some ⟨g, 0, none⟩) n n) l) (hl : l.length = n) (hn : 0 < n) :
    ∃ W2, (∀ ty, (Builtin.clear_ #[22] ty #[.slice (some ⟨g, 0, none⟩) n n]).run Tryd.prog W = .ok (.tuple #[]) W2) ∧ RU W2 base (.slice (some ⟨g, 0, none⟩) n n) (List.replicate n 0) ∧ Tch g W W2 := by
  refine ⟨W.setCells g 0 (nums .u32 (List.replicate n 0)), fun ty => ?_, ?_, tch_setCells _ 0 (tch_refl g W)⟩
  · have := Lib.run_clear_slice (P := Tryd.prog) W 22 54 ty (.int .u32 0) Tryd.underlying22 (fun w => by simp [Tryd.zeroValue54]) rfl rfl g 0 n n hn (fun j hj => by rw [Nat.zero_add, (RU_at h hl j hj).1]; rfl) (fun j hj => by rw [Nat.zero_add]; exact (RU_at h hl j hj).2)
    rw [this]
    simp [nums]
  · have := RU_setCells (List.replicate n 0) 0 h hl
    rw [ov_eq _ _ _ (by rw [List.length_replicate, hl]; omega)] at this
    rw [List.drop_of_length_le (by rw [List.length_replicate]; omega)] at this
    simpa using this
theorem copy_ex {W : World} {base g n m c : Nat} {A : Option Addr} {l vs : List Int} (h : RU W base (.slice (some ⟨g, 0, none⟩) n n) l) (hl : l.length = n) (hs : CU W A m vs) (hvs : vs.length = m) (hm : 0 < m) (hmn : m ≤ n) :
    ∃ W2, (∀ ty, (Builtin.copy_ #[22, 22] ty #[.slice (some ⟨g, 0, none⟩) n n, .slice A m c]).run Tryd.prog W = .ok (goInt m) W2) ∧ RU W2 base (.slice (some ⟨g, 0, none⟩) n n) (ov l 0 vs) ∧ Tch g W W2 := by
  obtain ⟨ad, rfl, _⟩ := CU_at hs 0 hm
  refine ⟨W.setCells g 0 (nums .u32 vs), fun ty => ?_, RU_setCells vs 0 h hl, tch_setCells _ 0 (tch_refl g W)⟩
  have hlen : (nums .u32 vs).length = m := by simp [nums, hvs]
  have := run_copy_cells (P := Tryd.prog) W 22 22 ty 54 g 0 n n ad m c (nums .u32 vs) Tryd.underlying22 infoU1 (by rw [hlen]; exact (Nat.min_eq_left hmn).symm) (fun j v hj => by
      obtain ⟨h1, rfl⟩ := nums_at hj
      obtain ⟨ad', e, hc⟩ := CU_at hs j (by omega)
      cases e
      exact hc) (fun j hj => by rw [Nat.zero_add, (RU_at h hl j (by omega)).1]; rfl) (fun j hj => by rw [Nat.zero_add]; exact (RU_at h hl j (by omega)).2) (fun v hv => by
      simp only [nums, List.mem_map] at hv
      obtain ⟨x, _, rfl⟩ := hv
      rfl)
  rw [this, hlen]
theorem val_ov {N : Nat} {vs : List Int} (h : vs.length ≤ N) : val (ov (List.replicate N 0) 0 vs) = val vs := by
  rw [ov_eq _ _ _ (by rw [List.length_replicate]; omega)]
  simp only [List.take_zero, List.nil_append, Nat.zero_add, List.drop_replicate]
  rw [val_append, val_replicate]
  simp
theorem lim_ov {N : Nat} {vs : List Int} (h : vs.length ≤ N) (hL : Lim vs) : Lim (ov (List.replicate N 0) 0 vs) := by
  rw [ov_eq _ _ _ (by rw [List.length_replicate]; omega)]
  simp only [List.take_zero, List.nil_append, Nat.zero_add, List.drop_replicate]
  exact hL.append (Lim.replicate _)

/-- What a guess needs to know. -/
theorem gs_of {lu lv : List Int} {k n : Nat} (hLu : Lim lu) (hLv : Lim lv) (hn : lv.length = n) (h2 : 2 ≤ n) (hk : k + n + 1 ≤ lu.length) (hv : 2147483648 ≤ lm lv (n - 1)) (hlt : val lu < val lv * pw (k + 1)) :
    Gs (lm lu (k + n) * 4294967296 + lm lu (k + n - 1)) (lm lv (n - 1)) (lm lv (n - 2)) (lm lu (k + n - 2)) (val lu / pw k / val lv) := by
  have hVlt := val_lt hLv
  rw [hn] at hVlt
  have hWe := val_drop hLu k
  have hWlt : val (lu.drop k) < val lv * 4294967296 := by
    rw [hWe, Nat.div_lt_iff_lt_mul (pw_pos k)]
    rw [pw_succ] at hlt
    rw [Nat.mul_assoc]
    exact hlt
  rw [← hWe]
  obtain ⟨m, rfl⟩ : ∃ m, n = m + 2 := ⟨n - 2, by omega⟩
  have e1 : k + (m + 2) - 1 = k + m + 1 := by omega
  have e2 : k + (m + 2) - 2 = k + m := by omega
  have e3 : m + 2 - 1 = m + 1 := by omega
  have e4 : m + 2 - 2 = m := by omega
  rw [e1, e2, e3, e4, show k + (m + 2) = k + m + 2 from by omega]
  rw [e3] at hv
  have hV : val lv = (lm lv (m + 1) * 4294967296 + lm lv m) * pw m + val (lv.take m) := by
    have s1 := val_split lv m
    have s2 := val_drop_at lv m
    have s3 := val_drop_at lv (m + 1)
    have s4 : val (lv.drop (m + 1 + 1)) = 0 := by rw [List.drop_of_length_le (by omega)]; rfl
    rw [s4] at s3
    rw [s3] at s2
    rw [s2] at s1
    rw [s1, Nat.mul_comm (pw m), Nat.add_comm]
    congr 2
    omega
  have hvl : val (lv.take m) < pw m := by
    have := val_lt (hLv.take m)
    rwa [List.length_take, Nat.min_eq_left (by omega)] at this
  have hwl : val ((lu.drop k).take m) < pw m := by
    have := val_lt ((hLu.drop k).take m)
    rwa [List.length_take, List.length_drop, Nat.min_eq_left (by omega)] at this
  have hdd : ∀ i, lm (lu.drop k) i = lm lu (k + i) := by
    intro i
    unfold lm
    rw [List.getD_eq_getElem?_getD, List.getD_eq_getElem?_getD, List.getElem?_drop]
  have b0 := lm_lt hLu (k + m + 2)
  have b1 := lm_lt hLu (k + m + 1)
  have b2 := lm_lt hLu (k + m)
  have b3 := lm_lt hLv (m + 1)
  have b4 := lm_lt hLv m
  -- the part above is nought
  have hW : val (lu.drop k) = ((lm lu (k + m + 2) * 4294967296 + lm lu (k + m + 1)) * 4294967296 + lm lu (k + m)) * pw m + val ((lu.drop k).take m) ∧ lm lu (k + m + 2) ≤ lm lv (m + 1) := by
    have s1 := val_split (lu.drop k) m
    have s2 := val_drop_at (lu.drop k) m
    have s3 := val_drop_at (lu.drop k) (m + 1)
    have s4 := val_drop_at (lu.drop k) (m + 1 + 1)
    rw [hdd] at s2 s3 s4
    rw [show k + (m + 1) = k + m + 1 from by omega] at s3
    rw [show k + (m + 1 + 1) = k + m + 2 from by omega] at s4
    generalize val ((lu.drop k).drop (m + 1 + 1 + 1)) = z at s4
    generalize val (lu.drop k) = W at *
    generalize val ((lu.drop k).take m) = wl at *
    rw [s4] at s3
    rw [s3] at s2
    rw [s2] at s1
    have hz : (lm lu (k + m + 2) + 4294967296 * z) ≤ lm lv (m + 1) := by
      refine Nat.le_of_not_lt fun hgt => ?_
      have h1 : (lm lv (m + 1) + 1) * (4294967296 * (4294967296 * pw m)) ≤ (lm lu (k + m + 2) + 4294967296 * z) * (4294967296 * (4294967296 * pw m)) := Nat.mul_le_mul_right _ hgt
      have h2 : (lm lu (k + m + 2) + 4294967296 * z) * (4294967296 * (4294967296 * pw m)) ≤ W := by
        rw [s1]
        have : (lm lu (k + m + 2) + 4294967296 * z) * (4294967296 * (4294967296 * pw m)) = pw m * (4294967296 * (4294967296 * (lm lu (k + m + 2) + 4294967296 * z))) := by ac_rfl
        rw [this]
        refine Nat.le_trans (Nat.mul_le_mul_left _ ?_) (Nat.le_add_left _ _)
        omega
      have h3 : val lv * 4294967296 < (lm lv (m + 1) + 1) * (4294967296 * (4294967296 * pw m)) := by
        have h4 : val lv < (lm lv (m + 1) + 1) * (4294967296 * pw m) := by
          rw [hV]
          have h5 : (lm lv (m + 1) * 4294967296 + lm lv m + 1) * pw m ≤ ((lm lv (m + 1) + 1) * 4294967296) * pw m := Nat.mul_le_mul_right _ (by omega)
          rw [Nat.add_mul _ 1, Nat.one_mul, Nat.mul_assoc (lm lv (m + 1) + 1)] at h5
          omega
        have h6 : (lm lv (m + 1) + 1) * (4294967296 * (4294967296 * pw m)) = (lm lv (m + 1) + 1) * (4294967296 * pw m) * 4294967296 := by ac_rfl
        rw [h6]
        exact Nat.mul_lt_mul_of_pos_right h4 (by decide)
      omega
    obtain rfl : z = 0 := by omega
    refine ⟨?_, by omega⟩
    rw [s1, Nat.mul_comm (pw m), Nat.add_comm]
    congr 2
    omega
  obtain ⟨hW, htop⟩ := hW
  have hVpos : 0 < val lv := by
    rw [hV]
    have := pw_pos m
    have := Nat.mul_le_mul_right (pw m) (show 1 ≤ lm lv (m + 1) * 4294967296 + lm lv m by omega)
    omega
  generalize lm lu (k + m + 2) = u0 at *
  generalize lm lu (k + m + 1) = u1 at *
  generalize lm lu (k + m) = u2 at *
  generalize lm lv (m + 1) = v1 at *
  generalize lm lv m = v2 at *
  generalize val (lv.take m) = vl at *
  generalize val ((lu.drop k).take m) = wl at *
  generalize pw m = P at *
  generalize val (lu.drop k) = W at *
  generalize val lv = V at *
  exact ⟨hv, by omega, k_init hW hwl b2 hV (by omega), by rw [Nat.div_lt_iff_lt_mul hVpos, Nat.mul_comm]; exact hWlt, fun q r h1 h2 => k_over hW hwl hV h1 h2 hVpos, fun q r h1 h2 h3 => k_done hW hV hvl (by omega) h1 h2 h3⟩
end Go.Proofs.YtklhpobphloehaaDoor.G
