/- The small machine by parts: a nest of statements run up to a place, the state told, and taken up again. -/
import Derived.Test.YtglgakcdjdhonaaGreatSD
set_option linter.unusedVariables false
namespace Go.Proofs.YtglgakcdjdhonaaGreat.Abs
def frontC : Nat → Code → Code
 | 0, _ => .skip
 | n + 1, c => match c with
  | .seq x y => .seq x (frontC n y)
  | _ => .skip
def backC : Nat → Code → Code
 | 0, c => c
 | n + 1, c => match c with
  | .seq _ y => backC n y
  | c => c
def snap (ids : List Nat) (m : Nat) (r : Option (AExit × TV × AW)) : Option (List Value × List (Nat × ABlk) × Nat) := match r with
 | some (.normal, t, A) => if Nat.beq t.n m then some ((List.range m).map fun k => t.getD k undef, ids.filterMap fun i => (A.get i).map fun B => (i, B), A.next) else none
 | _ => none
def memOf : List (Nat × ABlk) → T ABlk
 | [] => .leaf
 | p :: l => T.set (p.1 + 1) (memOf l) p.1 (some p.2)
def mkA (bs : List (Nat × ABlk)) (nx : Nat) : AW := ⟨memOf bs, nx⟩
theorem memOf_get : ∀ (bs : List (Nat × ABlk)) (i : Nat) (B : ABlk), (memOf bs).get i = some B → (i, B) ∈ bs
 | [], i, B, h => by
  unfold memOf at h
  cases h
 | p :: l, i, B, h => by
  unfold memOf at h
  rw [T.get_set _ _ _ _ _ (Nat.lt_succ_self _)] at h
  split at h
  ·rename_i e
   subst e
   cases h
   exact List.mem_cons_self
  ·exact List.mem_cons_of_mem _ (memOf_get l i B h)
def SubA (A' A : AW) : Prop := A'.next = A.next ∧ ∀ i B, A'.get i = some B → A.get i = some B
theorem Rel.sub {ρ : Ren} {A A' : AW} {w : World} (h : Rel ρ A w) (hs : SubA A' A) : Rel ρ A' w := by
 refine ⟨fun i L hi => by rw [hs.1]; exact h.dom i L hi, fun i hi => ?_, fun i L B h1 h2 => h.blk i L B h1 (hs.2 i B h2), fun i j L M B C h1 h2 h3 h4 h5 => h.sep i j L M B C h1 h2 h3 (hs.2 i B h4) (hs.2 j C h5)⟩
 cases hg : A'.get i with
 | none => rfl
 | some B =>
  have h1 := hs.2 i B hg
  rw [h.fresh i (hs.1 ▸ hi)] at h1
  cases h1
theorem Fr.sub {ρ : Ren} {A A' : AW} {w : World} (hs : SubA A' A) : Fr ρ A w ρ A' w :=
 ⟨fun _ _ => rfl, by rw [hs.1]; exact Nat.le_refl _, rfl, rfl, rfl, Nat.le_refl _, fun k _ hl => ⟨rfl, fun ⟨i, L, B, e, h1, h2⟩ => hl ⟨i, L, B, e, hs.2 i B h1, h2⟩⟩⟩
theorem snap_ok {ids : List Nat} {m : Nat} {r : Option (AExit × TV × AW)} {l : List Value} {bs : List (Nat × ABlk)} {nx : Nat} (h : snap ids m r = some (l, bs, nx)) :
  ∃ t A, r = some (.normal, t, A) ∧ t.length = m ∧ SubA (mkA bs nx) A ∧ l.length = m ∧ ∀ k, k < m → l.getD k undef = t.getD k undef := by
 unfold snap at h
 split at h
 ·rename_i t A
  split at h
  ·rename_i hn
   cases h
   refine ⟨t, A, rfl, Nat.eq_of_beq_eq_true hn, ⟨rfl, fun i B hi => ?_⟩, by simp, fun k hk => ?_⟩
   ·have := memOf_get _ i B hi
    rw [List.mem_filterMap] at this
    obtain ⟨j, _, hj⟩ := this
    cases hg : A.get j with
    | none => rw [hg] at hj; cases hj
    | some C =>
     rw [hg] at hj
     cases hj
     exact hg
   ·rw [List.getD_eq_getElem?_getD, List.getElem?_map, List.getElem?_range hk]
    rfl
  ·cases h
 ·cases h
theorem tr_snap {ρ : Ren} {t : TV} {l : List Value} {m : Nat} {tm : List Value} (h : TR ρ t tm) (hm : t.length = m) (hl : l.length = m) (hg : ∀ k, k < m → l.getD k undef = t.getD k undef) : TR ρ (TV.start m l) tm := by
 refine ⟨?_, fun k => ?_⟩
 ·rw [← h.1, hm]
  show l.length + (m - l.length) = m
  omega
 ·rw [start_getD]
  rcases Nat.lt_or_ge k m with hk | hk
  ·rw [hg k hk]; exact h.2 k
  ·have := h.2 k
   rw [tv_none t (by omega)] at this
   rw [List.getD_eq_getElem?_getD, List.getElem?_eq_none (by omega)]
   exact this
section
variable {P : Program} {W0 : World} {O : Orac}
theorem front_ok (G : Good P) (hO : OOk P W0 O) (hD : Drawn P) : ∀ (j n : Nat) (c : Code) (t : TV) (A : AW) (t1 : TV) (A1 : AW), codeOk c = true → evC P O n (frontC j c) t A = some (.normal, t1, A1) → ∀ (ρ : Ren) (w : World) (a : Act), Rel ρ A w → Base W0 ρ A w → TR ρ t a.tmps.toList → a.defers = [] → ∀ Q : Exit → Act → World → Prop,
  (∀ ρ1 a1 w1, Rel ρ1 A1 w1 → Fr ρ A w ρ1 A1 w1 → TR ρ1 t1 a1.tmps.toList → a1.defers = [] → codeOk (backC j c) = true → (backC j c).wp P Q a1 w1) → c.wp P Q a w := by
 intro j
 induction j with
 | zero =>
  intro n c t A t1 A1 hc he ρ w a hr hb ht hdf Q hQ
  cases n with
  | zero => cases he
  | succ n => simp only [frontC, evC] at he; cases he; exact hQ ρ a w hr (Fr.refl _ _ _) ht hdf hc
 | succ j ih =>
  intro n c t A t1 A1 hc he ρ w a hr hb ht hdf Q hQ
  cases n with
  | zero => cases he
  | succ n =>
   cases c with
   | seq x y =>
    simp only [codeOk, Bool.and_eq_true] at hc
    simp only [frontC, evC] at he
    cases hev : evC P O n x t A with
    | none => rw [hev] at he; cases he
    | some q =>
     obtain ⟨e2, t2, A2⟩ := q
     rw [hev] at he
     refine wp_seq ((code_ok G hO hD n).1 x t A e2 t2 A2 hc.1 hev ρ w a hr hb ht hdf _ fun ρ1 a1 w1 k1 k2 k3 k4 => ?_)
     cases e2 with
     | normal => exact ih n y t2 A2 t1 A1 hc.2 he ρ1 w1 a1 k1 (hb.trans k2) k3 k4 Q fun ρ2 a2 w2 z1 z2 z3 z4 z5 => hQ ρ2 a2 w2 z1 (k2.trans z2) z3 z4 z5
     | exit id => cases he
     | ret => cases he
   | _ => simp only [frontC, evC] at he; cases he; exact hQ ρ a w hr (Fr.refl _ _ _) ht hdf hc
theorem part_ok (G : Good P) (hO : OOk P W0 O) (hD : Drawn P) {j n m : Nat} {c : Code} {t : TV} {A : AW} {ids : List Nat} {l : List Value} {bs : List (Nat × ABlk)} {nx : Nat} (hc : codeOk c = true) (he : snap ids m (evC P O n (frontC j c) t A) = some (l, bs, nx)) {ρ : Ren} {w : World} {a : Act} (hr : Rel ρ A w) (hb : Base W0 ρ A w) (ht : TR ρ t a.tmps.toList) (hdf : a.defers = []) {Q : Exit → Act → World → Prop}
  (hQ : ∀ ρ1 a1 w1, Rel ρ1 (mkA bs nx) w1 → Base W0 ρ1 (mkA bs nx) w1 → TR ρ1 (TV.start m l) a1.tmps.toList → a1.defers = [] → codeOk (backC j c) = true → (backC j c).wp P Q a1 w1) : c.wp P Q a w := by
 obtain ⟨t1, A1, h1, h2, h3, h4, h5⟩ := snap_ok he
 exact front_ok G hO hD j n c t A t1 A1 hc h1 ρ w a hr hb ht hdf Q fun ρ1 a1 w1 k1 k2 k3 k4 k5 => hQ ρ1 a1 w1 (k1.sub h3) ((hb.trans k2).trans (Fr.sub h3)) (tr_snap k3 h2 h4 h5) k4 k5
end
end Go.Proofs.YtglgakcdjdhonaaGreat.Abs
