/- The law SolveKnown: its walk: the small machine's run by parts, and the last statement by hand. -/
import Derived.Test.YtglgakcdjdhonaaGreatZk4
import Derived.Test.YtglgakcdjdhonaaGreatZa22
import Derived.Test.YtglgakcdjdhonaaGreatS4
set_option linter.unusedVariables false
namespace Go.Proofs.YtglgakcdjdhonaaGreat.Abs
open Go.RowKit Go.Proofs.YtglgakcdjdhonaaGreatW.PrintWords Go.Proofs.YtglgakcdjdhonaaGreatW.PrintLast Go.Proofs.YtglgakcdjdhonaaGreat.Nn Go.Proofs.YtglgakcdjdhonaaGreat.G
section
variable {P : Program} {W0 : World} {F : CallF}
theorem ops_app (G : Good P) (hF : FOk P W0 F) {ops : Array Oper} {t1 : TV} {A1 : AW} {rest : List Oper} : ∀ (os : List Oper) (t : TV) (A : AW), opsA P F ops os t A = some (t1, A1) → ∀ (ρ : Ren) (w : World) (a : Act), Rel ρ A w → Base W0 ρ A w → TR ρ t a.tmps.toList →
  ∀ Q : Exit → Act → World → Prop, (∀ ρ1 a1 w1, Rel ρ1 A1 w1 → Fr ρ A w ρ1 A1 w1 → TR ρ1 t1 a1.tmps.toList → a1.defers = a.defers → wpList P ops Q rest a1 w1) → wpList P ops Q (os ++ rest) a w
 | [], t, A, he, ρ, w, a, hr, hb, ht, Q, hQ => by
  cases he
  exact hQ ρ a w hr (Fr.refl _ _ _) ht rfl
 | o :: os, t, A, he, ρ, w, a, hr, hb, ht, Q, hQ => by
  have hw := vr_wanted (ops := ops) (o := o) (by simpa using ht.length) fun k _ => vr_getD ht k
  rw [List.cons_append]
  unfold wpList
  rw [hw]
  unfold opsA at he
  cases hwt : wantedL ops t o with
  | false =>
   rw [hwt] at he
   simp only at he
   simp only [Bool.false_eq_true, if_false]
   exact ops_app G hF os _ A he ρ w _ hr hb (lr_put ht _ (VR.plain 9 _ (by rfl))) Q fun ρ1 a1 w1 h1 h2 h3 h4 => hQ ρ1 a1 w1 h1 h2 h3 (h4.trans defers_put)
  | true =>
   rw [hwt] at he
   simp only at he
   simp only [if_true]
   cases hex : exA P F t o A with
   | none => rw [hex] at he; cases he
   | some q =>
    obtain ⟨v, A2⟩ := q
    rw [hex] at he
    simp only at he
    refine .inl (exA_ok G hF hex hr hb (fun x _ hx => vr_operand hx fun k _ => vr_getD ht k) fun ρ1 v' w1 h1 h2 h3 => ?_)
    have hx := h2.ext hr
    exact ops_app G hF os _ A2 he ρ1 w1 _ h1 (hb.trans h2) (lr_put (ht.mono hx) _ h3) Q fun ρ2 a2 w2 k1 k2 k3 k4 => hQ ρ2 a2 w2 k1 (h2.trans k2) k3 (k4.trans defers_put)
end
def noF : CallF := fun _ _ _ => none
theorem noF_ok {P : Program} {W0 : World} : FOk P W0 noF := fun f args A v A1 h => by cases h
open Classical in
noncomputable def oneF (f0 : FuncId) (args0 : Array Value) (v0 : Value) : CallF := fun f args A => if f = f0 ∧ args = args0 then some (v0, A) else none
noncomputable def t5 (which : Int) : TV := match opsA Tryz.prog noF lastOps ops1 (TV.start 186 (st4 which)) (mkA bl4 nx4) with
 | some (t, _) => t
 | none => TV.start 0 []
noncomputable def isB (r : Option (TV × AW)) : Bool := match r with
 | some (t, A) => match resA Tryz.prog t A Tryz.f3.results.toList with
  | some [.bool b] => b
  | _ => false
 | none => false
theorem last_is : backC 3 (backC 1 (backC 4 (backC 7 bodyK))) = .seq (.region 16 lastOps false) .ret := by kernel_rfl
theorem ops_is : lastOps.toList = ops1 ++ op2 :: ops3 := by kernel_rfl
theorem run1 : (fun which : Int => opsA Tryz.prog noF lastOps ops1 (TV.start 186 (st4 which)) (mkA bl4 nx4)) = fun which => some (t5 which, mkA bl4 nx4) := by kernel_rfl
theorem run2 : (fun (F : CallF) (which : Int) => exA Tryz.prog F (t5 which) op2 (mkA bl4 nx4)) = fun F which => F 13 #[.int .i64 which, .int .i64 9] (mkA bl4 nx4) := by kernel_rfl
theorem run2w : (fun which : Int => wantedL lastOps (t5 which) op2) = fun _ => true := by kernel_rfl
theorem run3 : (fun which : Int => (List.range 9).all fun k => isB (opsA Tryz.prog noF lastOps ops3 (putL (t5 which) op2.dst (.int .i64 (k : Int))) (mkA bl4 nx4))) = fun _ => true := by kernel_rfl
theorem isB_ok {r : Option (TV × AW)} (h : isB r = true) : ∃ t A, r = some (t, A) ∧ resA Tryz.prog t A Tryz.f3.results.toList = some [.bool true] := by
 unfold isB at h
 split at h
 ·rename_i t A
  split at h
  ·rename_i b hb
   subst h
   exact ⟨t, A, rfl, hb⟩
  ·cases h
 ·cases h
set_option maxHeartbeats 4000000 in
set_option maxRecDepth 100000 in
theorem within17_w (a n : Int) (w : World) (hn : 0 < n) (hn1 : n < 1000000) :
  Calls Tryz.prog 13 #[.int .i64 a, .int .i64 n] w fun e w' => e = .returned (.int .i64 (a % n)) ∧ w = w' := by
 obtain ⟨m, rfl⟩ : ∃ m : Nat, n = (m : Int) := ⟨n.toNat, by omega⟩
 have hmb := (tmod_emod (a := a) (m := m) (by omega))
 have H := Aside0.mk hmb
 have hb1 := hmb.2.2.1
 have hb2 := hmb.2.2.2
 have hz : ¬ (m = 0) := by omega
 clear hmb
 by_cases ha : 0 ≤ a
 ·have hm0 : 0 ≤ a % (m : Int) := Int.emod_nonneg a (by omega)
  have hd : decide (a % (m : Int) < 0) = false := decide_eq_false (by omega)
  clear hb1 hb2 hm0
  go_enter Tryz.func13, Tryz.ntmps13
  go_wp2_with fail
  go_ret
  exact ⟨rfl, rfl⟩
 ·by_cases hs : a.tmod m < 0
  ·go_enter Tryz.func13, Tryz.ntmps13
   go_wp2_with fail
   go_ret
   exact ⟨by rw [← H.out.1 hs]; rfl, rfl⟩
  ·go_enter Tryz.func13, Tryz.ntmps13
   go_wp2_with fail
   go_ret
   exact ⟨by rw [← H.out.2.1 hs]; rfl, rfl⟩
theorem oneF_ok {W0 : World} {f0 : FuncId} {args0 : Array Value} {v0 : Value} (hv : ∀ ρ, VR ρ v0 v0) (ha : ∀ ρ args', AR ρ args0 args' → args' = args0) (hC : ∀ w, Calls Tryz.prog f0 args0 w fun e w' => e = .returned v0 ∧ w = w') : FOk Tryz.prog W0 (oneF f0 args0 v0) := by
 intro f args A v A1 h ρ w args' har hr hb
 unfold oneF at h
 split at h
 ·rename_i hc
  obtain ⟨rfl, rfl⟩ := hc
  cases h
  rw [ha ρ args' har]
  refine (hC w).mono ?_
  rintro e w1 ⟨rfl, rfl⟩
  exact back_plain hr (hv ρ) (Below.refl _ _)
 ·cases h
theorem code_all : codeOk bodyK = true := by kernel_rfl
theorem args_two {a b : Int} {ρ : Ren} {args' : Array Value} (h : AR ρ #[.int .i64 a, .int .i64 b] args') : args' = #[.int .i64 a, .int .i64 b] := by
 obtain ⟨a', b', rfl, h1, h2⟩ := h.two
 cases h1
 cases h2
 rfl
theorem args_one {a : Int} : AR (fun _ => none) #[.int .i64 a] #[.int .i64 a] := AR.of rfl fun j h1 _ => by
 obtain rfl : j = 0 := by simp at h1; omega
 exact .int _ _
theorem body_is : Tryz.f3.body = some bodyK := by kernel_rfl
theorem ntmps_is : Tryz.f3.ntmps = 186 := by kernel_rfl
attribute [local irreducible] bodyK lastOps ops1 ops3 op2 t5 evC opsA exA frontC backC snap isB mkA st1 st2 st3 st4 bl1 bl2 bl3 bl4
set_option maxRecDepth 100000 in
theorem solveKnown_w (which : Int) (w : World) : Calls Tryz.prog 3 #[.int .i64 which] w (TruePost w) := by
 obtain ⟨k, hk⟩ : ∃ k : Nat, which % 9 = (k : Int) := ⟨(which % 9).toNat, by omega⟩
 have hk9 : k < 9 := by omega
 have hC : ∀ w, Calls Tryz.prog 13 #[.int .i64 which, .int .i64 9] w fun e w' => e = .returned (.int .i64 (k : Int)) ∧ w = w' := fun w => by
  rw [← hk]
  exact within17_w which 9 w (by decide) (by decide)
 have hF : FOk Tryz.prog w (oneF 13 #[.int .i64 which, .int .i64 9] (.int .i64 (k : Int))) := oneF_ok (fun ρ => .int _ _) (fun ρ args' h => args_two h) hC
 have h3 : isB (opsA Tryz.prog noF lastOps ops3 (putL (t5 which) op2.dst (.int .i64 (k : Int))) (mkA bl4 nx4)) = true := List.all_eq_true.1 (congrFun run3 which) k (List.mem_range.2 hk9)
 obtain ⟨t6, A6, h4, h5⟩ := isB_ok h3
 have hlr : TR (fun _ => none) (TV.start 186 [.int .i64 which]) (#[.int .i64 which] ++ Array.replicate (Tryz.f3.ntmps - (#[.int .i64 which] : Array Value).size) undef : Array Value).toList := by
  have h := start_tr (args_one (a := which)) 186
  rw [ntmps_is]
  exact h
 have p1 := congrFun part1 which
 have p2 := congrFun part2 which
 have p3 := congrFun part3 which
 have p4 := congrFun part4 which
 simp only at p1 p2 p3 p4
 refine calls_of_wp (P := Tryz.prog) Tryz.func3 body_is ?_
 have hmain : ∀ a0 : Act, TR (fun _ => none) (TV.start 186 [.int .i64 which]) a0.tmps.toList → a0.defers = [] → bodyK.wp Tryz.prog (bodyPost Tryz.prog Tryz.f3 (TruePost w)) a0 w := ?_
 ·exact hmain _ hlr rfl
 intro a0 ht0 hd0
 clear hlr
 refine part_ok (c := bodyK) (j := 7) (n := 100000) (m := 186) good orac_ok drawn code_all p1 (Rel.empty w) (Fr.refl _ _ _) ht0 hd0 ?_
 intro ρ1 a1 w1 r1 b1 t1 d1 c1
 refine part_ok (j := 4) (n := 100000) (m := 186) good orac_ok drawn c1 p2 r1 b1 t1 d1 ?_
 intro ρ2 a2 w2 r2 b2 t2 d2 c2
 refine part_ok (j := 1) (n := 100000) (m := 186) good orac_ok drawn c2 p3 r2 b2 t2 d2 ?_
 intro ρ3 a3 w3 r3 b3 t3 d3 c3
 refine part_ok (j := 3) (n := 100000) (m := 186) good orac_ok drawn c3 p4 r3 b3 t3 d3 ?_
 intro ρ4 a4 w4 r4 b4 t4 d4 c4
 rw [last_is]
 refine wp_seq (wp_region_list ?_)
 rw [ops_is]
 refine ops_app good noF_ok ops1 _ _ (congrFun run1 which) ρ4 w4 a4 r4 b4 t4 _ ?_
 intro ρ5 a5 w5 r5 f5 t5' d5
 have hw := vr_wanted (ops := lastOps) (o := op2) (by simpa using t5'.length) fun k _ => vr_getD t5' k
 unfold wpList
 rw [hw, congrFun run2w which, if_pos rfl]
 have he : exA Tryz.prog (oneF 13 #[.int .i64 which, .int .i64 9] (.int .i64 (k : Int))) (t5 which) op2 (mkA bl4 nx4) = some (.int .i64 (k : Int), mkA bl4 nx4) := by
  rw [show exA Tryz.prog (oneF 13 #[.int .i64 which, .int .i64 9] (.int .i64 (k : Int))) (t5 which) op2 (mkA bl4 nx4) = oneF 13 #[.int .i64 which, .int .i64 9] (.int .i64 (k : Int)) 13 #[.int .i64 which, .int .i64 9] (mkA bl4 nx4) from congrFun (congrFun run2 _) which]
  unfold oneF
  rw [if_pos ⟨rfl, rfl⟩]
 refine .inl (exA_ok good hF he r5 (b4.trans f5) (fun x _ hx => vr_operand hx fun k _ => vr_getD t5' k) fun ρ6 v6 w6 r6 f6 v6r => ?_)
 refine ops_ok good noF_ok ops3 _ _ h4 ρ6 w6 _ r6 ((b4.trans f5).trans f6) (lr_put (t5'.mono (f6.ext r5)) _ v6r) _ ?_
 intro ρ7 a7 w7 r7 f7 t7 d7
 refine wp_ret ?_
 obtain ⟨v', z1, z2⟩ := results_ok r7 t7 Tryz.f3 h5
 cases z2
 exact ⟨(d7.trans defers_put).trans (d5.trans d4), _, z1, rfl, base_below (((b4.trans f5).trans f6).trans f7)⟩
end Go.Proofs.YtglgakcdjdhonaaGreat.Abs
