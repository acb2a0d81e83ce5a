/- Scripts that are named: each theorem's one argument is proved by its script where the theorem is named. -/
import Derived.Test.YtpegcppeobndcaaGreatDoorProg
import Derived.Test.YtpegcppeobndcaaGreatDoorSW
import Derived.WalkKit
import Derived.KernelRfl
import Derived.RowKit
import Derived.Deep.RegionHeld3
import Derived.Tactics
import Derived.Deep.QuietTactic
import Derived.Deep.DeepCutAuto
import Derived.BigQuiet
namespace Go.Proofs.YtpegcppeobndcaaGreatDoor
open Go.RowKit Go.Proofs.YtpegcppeobndcaaGreatDoorW.PrintWords
set_option linter.unusedVariables false
theorem PU : (∀ (a : Act) (d : Option Tmp) (v : Value), a.put d v = match d with | some d => { a with tmps := a.tmps.setIfInBounds d v } | none => a) ∧ (∀ (α : Type) (l : List α) (i : Nat) (a : α), l.toArray.setIfInBounds i a = (l.set i a).toArray) ∧ (∀ (α : Type) (x : α) (xs : List α) (a : α), (x :: xs).set 0 a = a :: xs) ∧ (∀ (α : Type) (x : α) (xs : List α) (i : Nat) (a : α), (x :: xs).set (i + 1) a = x :: xs.set i a) := ⟨fun _ _ _ => rfl, fun _ l i a => List.setIfInBounds_toArray l i a, fun _ _ _ _ => rfl, fun _ _ _ _ _ => rfl⟩
theorem tT {w a b : World} (T : Aside0 (Below w.heap.size w a)) (h : Below a.heap.size a b) : Aside0 (Below w.heap.size w b) := ⟨T.out.trans (h.mono T.out.size)⟩
theorem Z0 {p : Prop} (h : p := by repeat (first | (with_reducible first | exact HB.out | apply below_alloc | apply pw_below_drewN | apply below_drew1) | exact HB.out)) : p := h
theorem Z1 {p : Prop} (h : p := by (try simp only [List.map_toArray, List.map_cons, List.map_nil]); first | done | rfl | (simp only [List.length_drop, List.length_take]; rfl)) : p := h
theorem Z2 {p : Prop} (h : p := by repeat (first | (with_reducible first | exact HB.out | apply below_alloc | apply pw_below_drewN | apply below_drew1 | refine below_set ?_ GE145.out | refine below_set ?_ GE146.out | refine below_set ?_ GE147.out) | exact HB.out)) : p := h
theorem Z3 {p : Prop} (h : p := by (with_reducible repeat (first | refine blk_drewN ?_ _ | refine blk_drew ?_ | refine blk_alloc ?_ _)); exact BK145.out) : p := h
theorem Z4 {p : Prop} (h : p := by kernel_rfl) : p := h
theorem Z5 {p : Prop} (h : p := by decide) : p := h
theorem Z6 {p : Prop} (h : p := by (with_reducible repeat (first | refine blk_drewN ?_ _ | refine blk_drew ?_ | refine blk_alloc ?_ _)); exact BK146.out) : p := h
theorem Z7 {p : Prop} (h : p := by with_reducible repeat (first | exact Below.refl _ _ | exact HB5.out | exact HB4.out | exact HB3.out | refine Below.drew ?_)) : p := h
theorem Z8 {p : Prop} (h : p := by repeat (first | (with_reducible first | exact HB.out | apply below_alloc | apply pw_below_drewN | apply below_drew1 | refine below_set ?_ GE166.out | refine below_set ?_ GE167.out) | exact HB.out)) : p := h
theorem Z9 {p : Prop} (h : p := by repeat (first | (with_reducible first | exact HB.out | apply below_alloc | apply pw_below_drewN | apply below_drew1 | refine below_set ?_ GE145.out | refine below_set ?_ GE146.out) | exact HB.out)) : p := h
theorem Z10 {p : Prop} (h : p := by (with_reducible repeat (first | refine blk_drewN ?_ _ | refine blk_drew ?_ | refine blk_alloc ?_ _)); exact BK166.out) : p := h
theorem Z11 {p : Prop} (h : p := by repeat (first | (with_reducible first | exact HB.out | apply below_alloc | apply pw_below_drewN | apply below_drew1 | refine below_set ?_ GE145.out) | exact HB.out)) : p := h
theorem Z12 {p : Prop} (h : p := by (with_reducible repeat (first | apply Kd.R_alloc | apply Kd.R_drewN | apply Kd.R_drew)); exact HO150.out) : p := h
theorem Z13 {p : Prop} (h : p := by repeat (first | (with_reducible first | exact HB.out | apply below_alloc | apply pw_below_drewN | apply below_drew1 | refine below_set ?_ GE123.out) | exact HB.out)) : p := h
theorem Z14 {p : Prop} (h : p := by with_reducible repeat (first | exact Below.refl _ _ | exact HB1.out | exact HB2.out | exact HB3.out | exact HB4.out | refine Below.drew ?_)) : p := h
theorem Z15 {p : Prop} (h : p := by (with_reducible repeat (first | refine blk_drewN ?_ _ | refine blk_drew ?_ | refine blk_alloc ?_ _)); exact BK147.out) : p := h
theorem Z16 {p : Prop} (h : p := by repeat (first | (with_reducible first | exact HB.out | apply below_alloc | apply pw_below_drewN | apply below_drew1 | refine below_set ?_ GE123.out | refine below_set ?_ GE130.out) | exact HB.out)) : p := h
theorem Z17 {p : Prop} (h : p := by (with_reducible repeat (first | refine blk_drewN ?_ _ | refine blk_drew ?_ | refine blk_alloc ?_ _)); exact BK123.out) : p := h
theorem Z18 {p : Prop} (h : p := by with_reducible repeat (first | exact Below.refl _ _ | exact HB5.out | exact HB4.out | exact HB3.out | exact HB2.out | exact HB1.out | refine Below.drew ?_)) : p := h
theorem Z19 {p : Prop} (h : p := by (with_reducible repeat (first | apply Kd.R_alloc | apply Kd.R_drewN | apply Kd.R_drew)); exact (Kd.R_mono (Kd.R_far (p := ⟨gb145, 3, none⟩) (Kd.R_far (p := ⟨gb145, 2, none⟩) (Kd.R_far (p := ⟨gb145, 1, none⟩) (Kd.R_far (p := ⟨gb145, 0, none⟩) (Kd.R_types HO153.out BK145.out Z5) (fun _ hk => hk.2) (.bool a1_0)) (fun _ hk => hk.2) (.slice A1_1 l1_1.length c1_1)) (fun _ hk => hk.2) (.int .i64 a1_2)) (fun _ hk => hk.2) (.bool a1_3)) (fun _ h_ => h_.1))) : p := h
theorem Z20 {p : Prop} (h : p := by (with_reducible repeat (first | apply Kd.R_alloc | apply Kd.R_drewN | apply Kd.R_drew)); exact (Kd.R_mono (Kd.R_far (p := ⟨gb145, 3, none⟩) (Kd.R_far (p := ⟨gb145, 2, none⟩) (Kd.R_far (p := ⟨gb145, 1, none⟩) (Kd.R_far (p := ⟨gb145, 0, none⟩) (Kd.R_types HO150.out BK145.out Z5) (fun _ hk => hk.2) (.bool a1_0)) (fun _ hk => hk.2) (.slice A1_1 l1_1.length c1_1)) (fun _ hk => hk.2) (.int .i64 a1_2)) (fun _ hk => hk.2) (.bool a1_3)) (fun _ h_ => h_.1))) : p := h
theorem Z21 {p : Prop} (h : p := by (try simp only [List.map_toArray, List.map_cons, List.map_nil]); first | done | (simp only [hji3]; rfl) | rfl | (simp only [List.length_drop, List.length_take]; rfl)) : p := h
theorem Z22 {p : Prop} (h : p := by (with_reducible repeat (first | refine blk_drewN ?_ _ | refine blk_drew ?_ | refine blk_alloc ?_ _)); exact BK167.out) : p := h
theorem Z23 {p : Prop} (h : p := by repeat (first | (with_reducible first | exact HB.out | apply below_alloc | apply pw_below_drewN | apply below_drew1 | refine below_set ?_ GE101.out) | exact HB.out)) : p := h
theorem Z24 {p : Prop} (h : p := by repeat (first | (with_reducible first | exact HB.out | apply below_alloc | apply pw_below_drewN | apply below_drew1 | refine below_set ?_ GE166.out) | exact HB.out)) : p := h
theorem Z25 {p : Prop} (h : p := by first | rfl | (simp; done) | (simp [*]; done)) : p := h
theorem Z26 {p : Prop} (h : p := by obtain ⟨k0, k1, k2, k3⟩ := HKK.out; exact ⟨cell_far3 HNE.out k0, cell_far3 HNE.out k1, cell_far3 HNE.out k2, cell_far3 HNE.out k3⟩) : p := h
theorem Z27 {p : Prop} (h : p := by (with_reducible repeat (first | apply Kd.R_alloc | apply Kd.R_drewN | apply Kd.R_drew)); exact HO153.out) : p := h
theorem Z28 {p : Prop} (h : p := by (with_reducible repeat (first | apply Kd.R_alloc | apply Kd.R_drewN | apply Kd.R_drew)); exact (Kd.R_mono (Kd.R_far (p := ⟨gb174, 3, none⟩) (Kd.R_far (p := ⟨gb174, 2, none⟩) (Kd.R_far (p := ⟨gb174, 1, none⟩) (Kd.R_far (p := ⟨gb174, 0, none⟩) (Kd.R_types HO171.out BK174.out Z5) (fun _ hk => hk.2) (.bool t168)) (fun _ hk => hk.2) (.slice Ao17 t169.length co17)) (fun _ hk => hk.2) (.int .i64 t172)) (fun _ hk => hk.2) (.bool t173)) (fun _ h_ => h_.1))) : p := h
theorem Z29 {p : Prop} (h : p := by (with_reducible repeat (first | refine blk_drewN ?_ _ | refine blk_drew ?_ | refine blk_alloc ?_ _)); exact BK101.out) : p := h
theorem Z30 {p : Prop} (h : p := by with_reducible repeat (first | exact Below.refl _ _ | exact HB2.out | exact HB1.out | refine Below.drew ?_ | refine below_alloc ?_ _ | refine G.below_set ?_ (by omega) _ _)) : p := h
theorem Z31 {p : Prop} (h : p := by first | omega | (unfold mx; split <;> omega) | (split <;> omega)) : p := h
theorem Z32 {p : Prop} (h : p := by rw [HW.out.cell (p := ⟨0, 0, none⟩) (cell_lt hm)]; exact hm) : p := h
theorem Z33 {p : Prop} (h : p := by simp) : p := h
theorem Z34 {p : Prop} (h : p := by (with_reducible repeat (first | apply Kd.V_alloc | apply Kd.V_drewN | apply Kd.V_drew)); exact HO_0.out) : p := h
theorem Z35 {p : Prop} (h : p := by (with_reducible repeat (first | apply Kd.R_alloc | apply Kd.R_drewN | apply Kd.R_drew)); exact (Kd.R_mono (Kd.R_far (p := ⟨gb130, 1, none⟩) (Kd.R_far (p := ⟨gb130, 0, none⟩) (Kd.R_types HO127.out BK130.out Z5) (fun _ hk => hk.2) (.bool t128)) (fun _ hk => hk.2) (.int .i64 t129)) (fun _ h_ => h_.1))) : p := h
theorem Z36 {p : Prop} (h : p := by rw [World.cell?_setCell_other (h := by intro h; cases h <;> exact HNE.out rfl), World.cell?_setCell_other (h := by intro h; cases h <;> exact HNE.out rfl), World.cell?_setCell_other (h := by intro h; cases h <;> exact HNE.out rfl)]; exact HS7.out) : p := h
theorem Z37 {p : Prop} (h : p := by (with_reducible repeat (first | refine blk_drewN ?_ _ | refine blk_drew ?_ | refine blk_alloc ?_ _)); exact BK130.out) : p := h
theorem Z38 {p : Prop} (h : p := by simp [results, Tryz.results8, go_sem, *]) : p := h
theorem Z39 {p : Prop} (h : p := by rw [HE.out.1, HE.out.2]; exact low_done HW.out HGE.out HBE.out HNA.out HNB.out HB5.out HK2.out) : p := h
theorem Z40 {p : Prop} (h : p := by rw [← HBB.out]; exact isDig_not (by rw [← HNN.out]; omega)) : p := h
theorem Z41 {p : Prop} (h : p := by first | exact pw_below_drewN HB.out _ | exact pw_below_drewN (pw_below_drewN HB.out _) _) : p := h
theorem Z42 {p : Prop} (h : p := by simp [results, Tryz.results6, go_sem, *]) : p := h
theorem Z43 {p : Prop} (h : p := by (try simp only [List.map_toArray, List.map_cons, List.map_nil]); first | done | (simp only [hji4]; rfl) | rfl | (simp only [List.length_drop, List.length_take]; rfl)) : p := h
theorem Z44 {p : Prop} (h : p := by rw [HLN.out]; exact h1) : p := h
theorem Z45 {p : Prop} (h : p := by rw [HO.out.1]; omega) : p := h
theorem Z46 {p : Prop} (h : p := by simp [results, Tryz.results91, go_sem, *]) : p := h
theorem Z47 {p : Prop} (h : p := by simp [results, Tryz.results52, go_sem, *]) : p := h
theorem Z48 {p : Prop} (h : p := by rw [HLN.out]; exact hlt) : p := h
theorem Z49 {p : Prop} (h : p := by rw [List.length_take]; omega) : p := h
theorem Z50 {p : Prop} (h : p := by have := small_len bn; omega) : p := h
theorem Z51 {p : Prop} (h : p := by intro u hu k x; simp [Value.cells] at hu; subst hu; simp) : p := h
theorem Z52 {p : Prop} (h : p := by exact ⟨by first | rfl | (simp; done) | (simp [*]; done), by repeat (first | exact Drawn0.refl _ | apply Drawn0.step)⟩) : p := h
theorem Z53 {p : Prop} (h : p := by exact bodyPost_ret (v := .tuple #[.agg #[.bool b_q, .slice A_q M_q c_q, .slice B_q K_q d_q], .int .i64 0]) Z42 rfl ⟨_, rfl, by unfold Ra; rw [← E_q.out]; exact ⟨_, _, _, _, _, _, rfl, HD.out, HE.out⟩, HF.out⟩) : p := h
theorem Z54 {p : Prop} (h : p := by exact ⟨_, rfl, by rw [← HV.out]; exact HR2.out, HB2.out⟩) : p := h
theorem Z55 {p : Prop} (h : p := by exact bodyPost_ret (v := .tuple #[.agg #[.bool false, .slice none 0 0, .slice none 0 0], .int .i64 pb]) Z38 rfl (read_badW (c := pb) HQ.out HP.out HD.out)) : p := h
theorem Z56 {p : Prop} (h : p := by exact bodyPost_ret (v := .agg #[.bool false, .bool true]) Z46 rfl ⟨rfl, by first | exact below_alloc (below_alloc (Below.refl _ _) _) _ | exact G.below_set (G.below_set (below_alloc (below_alloc (Below.refl _ _) _) _) Z33 0 _) Z33 1 _⟩) : p := h
theorem Z57 {p : Prop} (h : p := by exact ⟨⟨by rw [hb.cell (p := ⟨g, 0, none⟩) hg]; exact h0, by rw [hb.cell (p := ⟨g, 1, none⟩) hg]; exact h1⟩, by rw [hb.frozen (p := ⟨g, 0, none⟩) hg]; exact f0, by rw [hb.frozen (p := ⟨g, 1, none⟩) hg]; exact f1⟩) : p := h
theorem Z58 {p : Prop} (h : p := by exact cmp_end HF.out (HCS.out _ rfl) (HBW.out.trans (HB5.out.mono HBW.out.size))) : p := h
theorem Z59 {p : Prop} (h : p := by exact ⟨ρ1, _, rfl, k1, k2, .tupleL (.cons k3 (.cons (.int _ _) .nil))⟩) : p := h
theorem Z60 {p : Prop} (h : p := by exact bodyPost_ret (v := .tuple #[.agg #[.bool Bq, .slice A7 L7 c7, .slice A8 L8 c8], .int .i64 kq]) Z38 rfl (HGO.out _ _ (r3_postE HD7.out))) : p := h
theorem Z61 {p : Prop} (h : p := by exact IntPost_of (cmpZ_gt (lt_at hL1 j HD.out.symm hj1 (by rw [← HX.out, ← HY.out]; have := HXY.out; have := HLT.out; omega))).symm Z41) : p := h
theorem Z62 {p : Prop} (h : p := by exact ⟨_, rfl, by rw [← strip_eq hL0]; exact HR2.out, HB2.out⟩) : p := h
theorem Z63 {p : Prop} (h : p := by exact bodyPost_ret (v := .tuple #[.agg #[.bool neg, .slice A2 L2 c2, .slice A3 L3 c3], .int .i64 0]) Z47 rfl (r3_postE HDN.out)) : p := h
theorem Z64 {p : Prop} (h : p := by exact ⟨this, by unfold pnum; rw [this]; rfl⟩) : p := h
end Go.Proofs.YtpegcppeobndcaaGreatDoor
