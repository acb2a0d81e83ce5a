/- Rational numbers: texts, and the laws' own functions: the small texts of this part, one behind another. -/
import Derived.Deep.RegionHeld3
import Derived.Test.YtklhpobphloehaaGreatDoorS5
import Derived.Test.YtklhpobphloehaaGreatDoorS4
/- A drawn region by an invariant over what has come up. -/
set_option linter.unusedVariables false
namespace Go.Proofs.YtklhpobphloehaaGreatDoor.Inv

section
variable {P : Program} {ops : Array Oper} {Q : Exit → Act → World → Prop} {md : Region.Mode}

def cnt (l : Array Bool) : Nat := l.toList.countP (fun b => !b)

theorem cnt_pos {l : Array Bool} {i : Nat} (h : l.getD i true = false) : 0 < cnt l := by
  unfold cnt
  rw [List.countP_pos_iff]
  have hi : i < l.size := by
    rcases Nat.lt_or_ge i l.size with h' | h'
    · exact h'
    · simp [Array.getD, Nat.not_lt.2 h'] at h
  refine ⟨l[i], by simp, ?_⟩
  simp [Array.getD, hi] at h
  simp [h]

theorem countP_set {l : List Bool} {i : Nat} (hi : i < l.length) (h : l[i] = false) : (l.set i true).countP (fun b => !b) + 1 = l.countP (fun b => !b) := by
  induction l generalizing i with
  | nil => simp at hi
  | cons b l ih =>
    cases i with
    | zero => simp at h; subst h; simp
    | succ i =>
      simp at h hi
      have := ih hi h
      simp [List.countP_cons]
      omega

theorem cnt_set {l : Array Bool} {i : Nat} (h : l.getD i true = false) : cnt (l.setIfInBounds i true) + 1 = cnt l := by
  have hi : i < l.size := by
    rcases Nat.lt_or_ge i l.size with h' | h'
    · exact h'
    · simp [Array.getD, Nat.not_lt.2 h'] at h
  unfold cnt
  simp only [Array.toList_setIfInBounds]
  refine countP_set (by simpa using hi) ?_
  simpa [Array.getD, hi] using h

/-- Every edge points back. -/
def back (ops : Array Oper) : Bool := (List.range ops.size).all fun i => ((ops[i]?).map (·.after.all fun e => decide (e.on < i))).getD true
theorem all_of_ready {ops : Array Oper} (hb : back ops = true) {listed : Array Bool} (hs : listed.size = ops.size) (hr : Region.ready md ops listed = []) : ∀ i, i < ops.size → listed.getD i false = true := by
  intro i
  induction i using Nat.strongRecOn with
  | _ i ih =>
    intro hi
    unfold Region.ready at hr
    have h1 := List.filter_eq_nil_iff.1 hr i (by simpa using hi)
    have h2 := List.all_eq_true.1 hb i (by simpa using hi)
    have ho : ops[i]? = some ops[i] := by simp [hi]
    simp only [ho, Option.map_some, Option.getD_some] at h1 h2
    have h3 : (ops[i].after.all fun e => !Region.binds md e || listed.getD e.on false) = true := by
      rw [Array.all_eq_true'] at h2 ⊢
      intro e he
      have h4 : e.on < i := by simpa using h2 e he
      rw [ih _ h4 (by omega)]
      simp
    rw [h3] at h1
    have hl : i < listed.size := by omega
    simp [Array.getD, hl] at h1 ⊢
    exact h1

/-- Operation i waits for j. -/
def waits (md : Region.Mode) (ops : Array Oper) (i j : Nat) : Bool := ((ops[i]?).map fun o => o.after.any fun e => Region.binds md e && e.on == j).getD false
theorem waits_listed {ops : Array Oper} {listed : Array Bool} {i j : Nat} (h : ((ops[i]?).map (·.after.all fun e => !Region.binds md e || listed.getD e.on false)).getD false = true) (hw : waits md ops i j = true) : listed.getD j false = true := by
  unfold waits at hw
  cases ho : ops[i]? with
  | none => rw [ho] at hw; cases hw
  | some o =>
    simp only [ho, Option.map_some, Option.getD_some] at h hw
    rw [Array.all_eq_true'] at h
    rw [Array.any_eq_true'] at hw
    obtain ⟨e, he, h2⟩ := hw
    have h3 := h e he
    simp at h2
    rw [h2.1, h2.2] at h3
    simpa using h3

/-- A drawn region by an invariant over what has come up: each operation is shown once. -/
theorem wpAny_inv (hb : back ops = true) (I : Array Bool → Act → World → Prop)
    (hend : ∀ listed a w, I listed a w → (∀ i, i < ops.size → listed.getD i false = true) → Q .normal a w)
    (hstep : ∀ i, i < ops.size → ∀ listed a w, I listed a w → listed.getD i true = false → (∀ j, waits md ops i j = true → listed.getD j false = true) →
      wpOp P ops Q i (fun a' w' => I (listed.setIfInBounds i true) a' w') a w) :
    ∀ fuel listed a w, listed.size = ops.size → cnt listed ≤ fuel → I listed a w → wpAny P md ops Q fuel listed a w := by
  intro fuel
  induction fuel with
  | zero =>
    intro listed a w hs hf hI
    have hr : Region.ready md ops listed = [] := by
      apply List.eq_nil_iff_forall_not_mem.2
      intro i hi
      unfold Region.ready at hi
      rw [List.mem_filter] at hi
      have h1 : listed.getD i true = false := by
        have h := hi.2
        simp only [Bool.and_eq_true, Bool.not_eq_true'] at h
        exact h.1
      have := cnt_pos h1
      omega
    exact ⟨hr, hend _ _ _ hI (all_of_ready hb hs hr)⟩
  | succ fuel ih =>
    intro listed a w hs hf hI
    refine ⟨fun hr => hend _ _ _ hI (all_of_ready hb hs hr), fun i hi => ?_⟩
    unfold Region.ready at hi
    rw [List.mem_filter] at hi
    have h := hi.2
    simp only [Bool.and_eq_true, Bool.not_eq_true'] at h
    refine wpOp_mono (fun a' w' h' => ih _ a' w' (by simpa using hs) ?_ h') (hstep i (by simpa using hi.1) listed a w hI h.1 (fun j hj => waits_listed h.2 hj))
    have := cnt_set h.1
    omega
end
/-- The same at a region that is written out, as a prover meets it: the frame at the start is handed to the invariant. -/
theorem wp_region_inv {P : Program} {l : List Oper} {Q : Exit → Act → World → Prop} (n : Nat) (I : Act → Array Bool → Act → World → Prop) {id : Nat} {a : Act} {w : World} (hm : P.follows .mixedOrders = true)
    (hb : back l.toArray = true) (hn : l.length = n)
    (h0 : I a (Array.replicate n false) a w.drew)
    (hend : ∀ listed a1 w1, I a listed a1 w1 → (∀ i, i < n → listed.getD i false = true) → Q .normal a1 w1)
    (hstep : ∀ i, i < n → ∀ listed a1 w1, I a listed a1 w1 → listed.getD i true = false → (∀ j, waits .any l.toArray i j = true → listed.getD j false = true) →
      ∀ o, l[i]? = some o → ∀ K : Act → World → Prop, Shut (∀ a2 w2, I a (listed.setIfInBounds i true) a2 w2 → K a2 w2) → if Region.wanted o (yielded l.toArray a1.tmps) = true then Oper.wp P o a1 w1 K Q else K (a1.put o.dst undef) w1) :
    (Code.region id l.toArray true).wp P Q a w := by
  have hs : l.toArray.size = n := by simpa using hn
  refine wp_region_any hm (wpAny_inv hb (I a) (fun listed a1 w1 h1 h2 => hend listed a1 w1 h1 (by rwa [hs] at h2)) (fun i hi listed a1 w1 h1 h2 h3 => ?_) _ _ _ _ (by simp) ?_ (by rw [hs]; exact h0))
  · rw [hs] at hi
    have ho : l.toArray[i]? = some (l[i]'(by omega)) := by simp [hn, hi]
    exact wpOp_step ho (fun K hK => hstep i hi listed a1 w1 h1 h2 h3 _ (by simp [hn, hi]) K hK)
  · unfold cnt
    exact Nat.le_trans List.countP_le_length (by simp)
theorem lt_cases {p : Nat → Prop} {n : Nat} (h : p n) (hs : ∀ i, i < n → p i) : ∀ i, i < n + 1 → p i := fun i hi => by
  rcases Nat.lt_or_eq_of_le (Nat.le_of_lt_succ hi) with h1 | h1
  · exact hs i h1
  · exact h1 ▸ h
theorem lt_none {p : Nat → Prop} : ∀ i, i < 0 → p i := fun i hi => absurd hi (Nat.not_lt_zero i)

section
variable {P : Program} {l : List Oper} {Q : Exit → Act → World → Prop} {md : Region.Mode} {S : World → Prop}
theorem at_list {i : Nat} {o : Oper} (h : l[i]? = some o) : l.toArray[i]? = some o := by simpa using h
/-- An operation that is wanted and yields v: taken first. -/
theorem takeL {i : Nat} {oi : Oper} {v : Value} {fuel : Nat} {listed : Array Bool} {a : Act} {w : World} (hi : l[i]? = some oi)
    (hs : Region.noSelect l.toArray = true) (hf : Region.free md l.toArray listed i = true) (hr : (Region.ready md l.toArray listed).contains i = true)
    (hQ : ∀ c a w, Q (.panic c) (a.put oi.dst v) w → Q (.panic c) a w) (hw : Region.wanted oi (yielded l.toArray a.tmps) = true)
    (hy : ∀ w, S w → (execOp a.eval oi).run P w = .ok (.value v) w) (hS : S w)
    (h : wpAnyH P md l.toArray Q S fuel (listed.setIfInBounds i true) (a.put oi.dst v) w) : wpAnyH P md l.toArray Q S (fuel + 1) listed a w :=
  wpAnyH_take (at_list hi) hs hf hr hQ (Or.inl ⟨hw, hy⟩) hS h
/-- An operation that is not wanted. -/
theorem skipL {i : Nat} {oi : Oper} {fuel : Nat} {listed : Array Bool} {a : Act} {w : World} (hi : l[i]? = some oi)
    (hs : Region.noSelect l.toArray = true) (hf : Region.free md l.toArray listed i = true) (hr : (Region.ready md l.toArray listed).contains i = true)
    (hQ : ∀ c a w, Q (.panic c) (a.put oi.dst undef) w → Q (.panic c) a w) (hw : Region.wanted oi (yielded l.toArray a.tmps) = false) (hS : S w)
    (h : wpAnyH P md l.toArray Q S fuel (listed.setIfInBounds i true) (a.put oi.dst undef) w) : wpAnyH P md l.toArray Q S (fuel + 1) listed a w :=
  wpAnyH_take (at_list hi) hs hf hr hQ (Or.inr ⟨hw, rfl⟩) hS h
/-- The one operation that may come up. -/
theorem oneL {i : Nat} {o : Oper} {fuel : Nat} {listed : Array Bool} {a : Act} {w : World} (hi : l[i]? = some o) (hr : Region.ready md l.toArray listed = [i])
    (h : ∀ K' : Act → World → Prop, Shut (∀ a w, S w → (S w → wpAnyH P md l.toArray Q S fuel (listed.setIfInBounds i true) a w) → K' a w) → if Region.wanted o (yielded l.toArray a.tmps) = true then Oper.wp P o a w K' Q else K' (a.put o.dst undef) w) :
    wpAnyH P md l.toArray Q S (fuel + 1) listed a w := wpAnyH_ready hr (by simp) (AllReadyH.cons (at_list hi) h AllReadyH.nil)
end
end Go.Proofs.YtklhpobphloehaaGreatDoor.Inv
/- Rational numbers as values: each call's contract at any two rational numbers. -/
set_option linter.unusedVariables false
namespace Go.Proofs.YtklhpobphloehaaGreatDoor.G
open Go.RowKit Go.Proofs.YtklhpobphloehaaGreatDoorW.PrintWords Go.Proofs.YtklhpobphloehaaGreatDoorW.PrintLast Go.Proofs.YtklhpobphloehaaGreatDoor.Nn

def Ra (w : World) (v : Value) (x : Rat) : Prop := R3 w v (decide (x.num < 0)) x.num.natAbs x.den
def RaPost (w : World) (x : Rat) (e : Ending) (w' : World) : Prop := ∃ v, e = .returned v ∧ Ra w' v x ∧ Below w.heap.size w w'
def RaPostE (w : World) (x : Rat) (k : Int) (e : Ending) (w' : World) : Prop := ∃ v, e = .returned (.tuple #[v, .int .i64 k]) ∧ Ra w' v x ∧ Below w.heap.size w w'
/-- How many limbs a number has at most, above and below. -/
def Rb (k : Nat) (x : Rat) : Prop := x.num.natAbs < pw k ∧ x.den < pw k
theorem Ra.below {w w1 : World} {v : Value} {x : Rat} (h : Ra w v x) (hb : Below w.heap.size w w1) : Ra w1 v x := R3.below h hb
theorem Rb.le {k m : Nat} {x : Rat} (h : Rb k x) (hk : k ≤ m) : Rb m x := ⟨Nat.lt_of_lt_of_le h.1 (pw_le hk), Nat.lt_of_lt_of_le h.2 (pw_le hk)⟩
theorem sg_num (n : Int) : sg (decide (n < 0)) n.natAbs = n := by
  unfold sg
  by_cases h : n < 0
  · rw [decide_eq_true h, if_pos rfl]; omega
  · rw [decide_eq_false h, if_neg (by decide)]; omega
theorem sg_abs (neg : Bool) (n : Nat) : (sg neg n).natAbs = n := by
  unfold sg
  cases neg <;> simp
theorem mk_canon (neg : Bool) (n : Nat) {d : Nat} (hd : d ≠ 0) : decide ((mkRat (sg neg n) d).num < 0) = (decide (n ≠ 0) && neg) ∧ (mkRat (sg neg n) d).num.natAbs = n / Nat.gcd n d ∧ (mkRat (sg neg n) d).den = d / Nat.gcd n d := by
  have hg : 0 < Nat.gcd n d := Nat.gcd_pos_of_pos_right _ (Nat.pos_of_ne_zero hd)
  have hdv : Nat.gcd n d * (n / Nat.gcd n d) = n := Nat.mul_div_cancel' (Nat.gcd_dvd_left n d)
  have hn : (mkRat (sg neg n) d).num = sg neg (n / Nat.gcd n d) := by
    rw [Rat.num_mkRat, if_neg hd, sg_abs, Nat.gcd_comm]
    unfold sg
    obtain ⟨g, hge⟩ : ∃ g, g = Nat.gcd n d := ⟨_, rfl⟩
    rw [← hge] at hg hdv ⊢
    obtain ⟨q, hq⟩ : ∃ q, q = n / g := ⟨_, rfl⟩
    rw [← hq] at hdv ⊢
    subst hdv
    have hgz : (g : Int) ≠ 0 := by omega
    cases neg with
    | false => simp only [Bool.false_eq_true, if_false]; rw [Int.natCast_mul, Int.mul_ediv_cancel_left _ hgz]
    | true => simp only [if_true]; rw [Int.natCast_mul, ← Int.mul_neg, Int.mul_ediv_cancel_left _ hgz]
  refine ⟨?_, by rw [hn, sg_abs], by rw [Rat.den_mkRat, if_neg hd, sg_abs, Nat.gcd_comm]⟩
  rw [hn]
  have hz : n / Nat.gcd n d = 0 ↔ n = 0 := by
    constructor
    · intro h
      rw [h, Nat.mul_zero] at hdv
      exact hdv.symm
    · intro h
      rw [h, Nat.zero_div]
  unfold sg
  by_cases h : n = 0
  · rw [hz.2 h, h]
    cases neg <;> simp
  · have : n / Nat.gcd n d ≠ 0 := fun e => h (hz.1 e)
    rw [decide_eq_true h]
    obtain ⟨q, hq⟩ : ∃ q, q = n / Nat.gcd n d := ⟨_, rfl⟩
    rw [← hq] at this ⊢
    cases neg
    · simp only [Bool.false_eq_true, if_false, Bool.and_false, decide_eq_false_iff_not]; omega
    · simp only [if_true, Bool.and_true, decide_eq_true_eq]; omega
theorem low_rat {w w' : World} {neg : Bool} {n d : Nat} {x : Rat} {e : Ending} (hd : d ≠ 0) (hx : x = mkRat (sg neg n) d) (h : LowPost w neg n d e w') : RaPost w x e w' := by
  obtain ⟨v, he, hR, hB⟩ := h
  obtain ⟨h1, h2, h3⟩ := mk_canon neg n hd
  subst hx
  exact ⟨v, he, by unfold Ra; rw [h1, h2, h3]; exact hR, hB⟩
theorem low_ratE {w w' : World} {neg : Bool} {n d : Nat} {x : Rat} {e : Ending} (hd : d ≠ 0) (hx : x = mkRat (sg neg n) d) (h : LowPostE w neg n d e w') : RaPostE w x 0 e w' := by
  obtain ⟨v, he, hR, hB⟩ := h
  obtain ⟨h1, h2, h3⟩ := mk_canon neg n hd
  subst hx
  exact ⟨v, he, by unfold Ra; rw [h1, h2, h3]; exact hR, hB⟩
/-- Bounds. -/
theorem mk_bnd {n : Int} {d k : Nat} (hn : n.natAbs < pw k) (hd : d < pw k) (h0 : d ≠ 0) : Rb k (mkRat n d) := by
  constructor
  · rw [Rat.num_mkRat, if_neg h0]
    refine Nat.lt_of_le_of_lt ?_ hn
    rw [Int.natAbs_ediv_of_dvd (by rw [← Int.dvd_natAbs, Int.ofNat_dvd]; exact Nat.gcd_dvd_right _ _), Int.natAbs_natCast]
    exact Nat.div_le_self _ _
  · rw [Rat.den_mkRat, if_neg h0]
    exact Nat.lt_of_le_of_lt (Nat.div_le_self _ _) hd
theorem mul_bnd {x y : Rat} {a b c : Nat} (hx : Rb a x) (hy : Rb b y) (hc : a + b ≤ c) : Rb c (x * y) := by
  rw [Rat.mul_def']
  refine mk_bnd ?_ ?_ (Nat.mul_ne_zero x.den_nz y.den_nz)
  · rw [Int.natAbs_mul]; exact Nat.lt_of_lt_of_le (pw_mulb hx.1 hy.1) (pw_le hc)
  · exact Nat.lt_of_lt_of_le (pw_mulb hx.2 hy.2) (pw_le hc)
theorem add_bnd {x y : Rat} {a b c : Nat} (hx : Rb a x) (hy : Rb b y) (hc : a + b + 1 ≤ c) : Rb c (x + y) := by
  rw [Rat.add_def']
  refine mk_bnd ?_ ?_ (Nat.mul_ne_zero x.den_nz y.den_nz)
  · refine Nat.lt_of_le_of_lt (Int.natAbs_add_le _ _) ?_
    rw [Int.natAbs_mul, Int.natAbs_mul, Int.natAbs_natCast, Int.natAbs_natCast]
    exact pw_addb (pw_mulb hx.1 hy.2) (pw_mulb hy.1 hx.2) hc (by omega)
  · exact Nat.lt_of_lt_of_le (pw_mulb hx.2 hy.2) (pw_le (by omega))
theorem neg_bnd {x : Rat} {a : Nat} (hx : Rb a x) : Rb a (-x) := by
  constructor
  · rw [Rat.neg_num, Int.natAbs_neg]; exact hx.1
  · rw [Rat.neg_den]; exact hx.2
theorem sub_bnd {x y : Rat} {a b c : Nat} (hx : Rb a x) (hy : Rb b y) (hc : a + b + 1 ≤ c) : Rb c (x - y) := by
  rw [Rat.sub_eq_add_neg]
  exact add_bnd hx (neg_bnd hy) hc
/-- Signs and sizes. -/
theorem sg_mul (a b : Int) : sg (decide (a < 0) != decide (b < 0)) (a.natAbs * b.natAbs) = a * b := by
  rw [← Int.natAbs_mul, ← sg_num (a * b), sg_abs]
  unfold sg
  have h : a.natAbs * b.natAbs = (a * b).natAbs := (Int.natAbs_mul a b).symm
  by_cases ha : a < 0 <;> by_cases hb : b < 0
  · have : ¬ a * b < 0 := Int.not_lt.2 (Int.mul_nonneg_of_nonpos_of_nonpos (Int.le_of_lt ha) (Int.le_of_lt hb))
    rw [decide_eq_true ha, decide_eq_true hb, decide_eq_false this]; rfl
  · by_cases h0 : b = 0
    · subst h0; simp
    · have : a * b < 0 := Int.mul_neg_of_neg_of_pos ha (by omega)
      rw [decide_eq_true ha, decide_eq_false hb, decide_eq_true this]; rfl
  · by_cases h0 : a = 0
    · subst h0; simp
    · have : a * b < 0 := Int.mul_neg_of_pos_of_neg (by omega) hb
      rw [decide_eq_false ha, decide_eq_true hb, decide_eq_true this]; rfl
  · have : ¬ a * b < 0 := Int.not_lt.2 (Int.mul_nonneg (by omega) (by omega))
    rw [decide_eq_false ha, decide_eq_false hb, decide_eq_false this]; rfl
theorem abs_mulN (a : Int) (b : Nat) : ((a.natAbs * b : Nat) : Int) = if a < 0 then -(a * b) else a * b := by
  rw [Int.natCast_mul]
  by_cases h : a < 0
  · rw [if_pos h, show (a.natAbs : Int) = -a from by omega, Int.neg_mul]
  · rw [if_neg h, show (a.natAbs : Int) = a from by omega]
theorem sg_addz (a b : Int) (p q : Nat) : sg (addNeg (decide (a < 0)) (decide (b < 0)) (a.natAbs * q) (b.natAbs * p)) (addNum (decide (a < 0)) (decide (b < 0)) (a.natAbs * q) (b.natAbs * p)) = a * q + b * p := by
  have h1 := abs_mulN a q
  have h2 := abs_mulN b p
  obtain ⟨X, hX⟩ : ∃ X, X = a.natAbs * q := ⟨_, rfl⟩
  obtain ⟨Y, hY⟩ : ∃ Y, Y = b.natAbs * p := ⟨_, rfl⟩
  rw [← hX] at h1 ⊢
  rw [← hY] at h2 ⊢
  unfold sg addNeg addNum
  by_cases ha : a < 0 <;> by_cases hb : b < 0 <;> by_cases hxy : X < Y <;> simp [ha, hb, hxy] at h1 h2 ⊢ <;> omega
theorem qmulR {w : World} {v0 v1 : Value} {x y : Rat} (hx : Ra w v0 x) (hy : Ra w v1 y) (bx : Rb 400 x) (by_ : Rb 400 y) : Calls Tryz.prog 23 #[v0, v1] w (RaPost w (x * y)) :=
  (qmul_w hx hy bx.1 bx.2 by_.1 by_.2 x.den_nz y.den_nz).mono fun _ _ h => low_rat (Nat.mul_ne_zero x.den_nz y.den_nz) (by rw [Rat.mul_def', sg_mul]) h
theorem qaddR {w : World} {v0 v1 : Value} {x y : Rat} (hx : Ra w v0 x) (hy : Ra w v1 y) (bx : Rb 400 x) (by_ : Rb 400 y) : Calls Tryz.prog 19 #[v0, v1] w (RaPost w (x + y)) :=
  (qadd_w hx hy bx.1 bx.2 by_.1 by_.2 x.den_nz y.den_nz).mono fun _ _ h => low_rat (Nat.mul_ne_zero x.den_nz y.den_nz) (by rw [Rat.add_def', sg_addz]) h
theorem negB_num (a : Int) : negB (decide (a < 0)) a.natAbs = decide (-a < 0) := by
  unfold negB
  by_cases h : a < 0
  · rw [decide_eq_true h, decide_eq_false (show ¬ -a < 0 by omega)]; rfl
  · by_cases h0 : a = 0
    · subst h0; rfl
    · rw [decide_eq_false h, decide_eq_true (show a.natAbs ≠ 0 by omega), decide_eq_true (show -a < 0 by omega)]; rfl
theorem qnegR {w : World} {v0 : Value} {x : Rat} (hx : Ra w v0 x) (bx : Rb 400 x) : Calls Tryz.prog 15 #[v0] w (RaPost w (-x)) :=
  (qneg_w hx (pw_lt1000 bx.1 (by omega)) (pw_lt1000 bx.2 (by omega))).mono fun e w' ⟨v, he, hR, hB⟩ => ⟨v, he, by unfold Ra; rw [Rat.neg_num, Rat.neg_den, Int.natAbs_neg, ← negB_num]; exact hR, hB⟩
theorem qsubR {w : World} {v0 v1 : Value} {x y : Rat} (hx : Ra w v0 x) (hy : Ra w v1 y) (bx : Rb 400 x) (by_ : Rb 400 y) : Calls Tryz.prog 21 #[v0, v1] w (RaPost w (x - y)) :=
  (qsub_w hx hy bx.1 bx.2 by_.1 by_.2 x.den_nz y.den_nz).mono fun _ _ h => low_rat (Nat.mul_ne_zero x.den_nz y.den_nz) (by rw [Rat.sub_eq_add_neg, Rat.add_def', Rat.neg_num, Rat.neg_den, ← sg_addz, Int.natAbs_neg, negB_num]) h
end Go.Proofs.YtklhpobphloehaaGreatDoor.G
/- Rational numbers as values: Quo, Cmp, Same, Abs; the reference's Same, Nought, Int. -/
set_option linter.unusedVariables false
namespace Go.Proofs.YtklhpobphloehaaGreatDoor.G
open Go.RowKit Go.Proofs.YtklhpobphloehaaGreatDoorW.PrintWords Go.Proofs.YtklhpobphloehaaGreatDoorW.PrintLast Go.Proofs.YtklhpobphloehaaGreatDoor.Nn

def cmpQ (x y : Rat) : Int := if x < y then -1 else if x = y then 0 else 1
theorem cmpS_eq (x y : Rat) : cmpS (mkN (decide (x.num < 0)) x.num.natAbs) (mkZ x.num.natAbs) (mkN (decide (y.num < 0)) y.num.natAbs) (mkZ y.num.natAbs) (cmpZ (x.num.natAbs * y.den) (y.num.natAbs * x.den)) = cmpQ x y := by
  have h1 := abs_mulN x.num y.den
  have h2 := abs_mulN y.num x.den
  have hx0 : x.num.natAbs * y.den = 0 ↔ x.num = 0 := by rw [Nat.mul_eq_zero]; have := y.den_nz; omega
  have hy0 : y.num.natAbs * x.den = 0 ↔ y.num = 0 := by rw [Nat.mul_eq_zero]; have := x.den_nz; omega
  have hlt := Rat.lt_iff x y
  have heq := @Rat.eq_iff_mul_eq_mul x y
  have ha : x.num.natAbs = 0 ↔ x.num = 0 := by omega
  have hb : y.num.natAbs = 0 ↔ y.num = 0 := by omega
  obtain ⟨P, hP⟩ : ∃ P, P = x.num.natAbs * y.den := ⟨_, rfl⟩
  obtain ⟨Q, hQ⟩ : ∃ Q, Q = y.num.natAbs * x.den := ⟨_, rfl⟩
  obtain ⟨p, hp⟩ : ∃ p, p = x.num * (y.den : Int) := ⟨_, rfl⟩
  obtain ⟨q, hq⟩ : ∃ q, q = y.num * (x.den : Int) := ⟨_, rfl⟩
  rw [← hP] at h1 hx0 ⊢
  rw [← hQ] at h2 hy0 ⊢
  rw [← hp] at h1 hlt heq
  rw [← hq] at h2 hlt heq
  unfold cmpQ cmpS mkN mkZ cmpZ
  by_cases c1 : x.num < 0 <;> by_cases c2 : y.num < 0 <;> by_cases c3 : x.num = 0 <;> by_cases c4 : y.num = 0 <;> by_cases c5 : P < Q <;> by_cases c6 : P = Q <;> by_cases c7 : p < q <;> by_cases c8 : p = q <;>
    simp [ha, hb, hlt, heq, c1, c2, c3, c4, c5, c6, c7, c8] at h1 h2 hx0 hy0 ⊢ <;> omega
theorem qcmpR {w : World} {v0 v1 : Value} {x y : Rat} (hx : Ra w v0 x) (hy : Ra w v1 y) (bx : Rb 400 x) (by_ : Rb 400 y) : Calls Tryz.prog 13 #[v0, v1] w (IntPost w (cmpQ x y)) :=
  (qcmp_w hx hy bx.1 bx.2 by_.1 by_.2).mono fun e w' h => by unfold CmpPost at h; rw [cmpS_eq] at h; exact h
theorem quo_eq {x y : Rat} (hy : y ≠ 0) : x / y = mkRat (sg (decide (x.num < 0) != decide (y.num < 0)) (x.num.natAbs * y.den)) (x.den * y.num.natAbs) := by
  have hn : y.num ≠ 0 := fun h => hy (Rat.num_eq_zero.1 h)
  rw [Rat.div_def, Rat.inv_def]
  conv => lhs; rw [← Rat.num_divInt_den x]
  rw [Rat.divInt_mul_divInt]
  by_cases h : y.num < 0
  · have e1 : (x.den : Int) * y.num = -((x.den * y.num.natAbs : Nat) : Int) := by rw [Int.natCast_mul, show (y.num.natAbs : Int) = -y.num by omega, Int.mul_neg, Int.neg_neg]
    rw [e1, Rat.divInt_neg', Rat.divInt_ofNat]
    congr 1
    have e2 := abs_mulN x.num y.den
    unfold sg
    by_cases hx : x.num < 0
    · simp [hx, h] at e2 ⊢; omega
    · simp [hx, h] at e2 ⊢; omega
  · have e1 : (x.den : Int) * y.num = ((x.den * y.num.natAbs : Nat) : Int) := by rw [Int.natCast_mul, show (y.num.natAbs : Int) = y.num by omega]
    rw [e1, Rat.divInt_ofNat]
    congr 1
    have e2 := abs_mulN x.num y.den
    unfold sg
    by_cases hx : x.num < 0
    · simp [hx, h] at e2 ⊢; omega
    · simp [hx, h] at e2 ⊢; omega
theorem quo_bnd {x y : Rat} {a b c : Nat} (hx : Rb a x) (hy : Rb b y) (h0 : y ≠ 0) (hc : a + b ≤ c) : Rb c (x / y) := by
  have hn : y.num.natAbs ≠ 0 := fun h => h0 (Rat.num_eq_zero.1 (by omega))
  rw [quo_eq h0]
  refine mk_bnd ?_ ?_ (Nat.mul_ne_zero x.den_nz hn)
  · rw [sg_abs]; exact Nat.lt_of_lt_of_le (pw_mulb hx.1 hy.2) (pw_le hc)
  · exact Nat.lt_of_lt_of_le (pw_mulb hx.2 hy.1) (pw_le hc)
theorem qquoR {w : World} {v0 v1 : Value} {x y : Rat} (hx : Ra w v0 x) (hy : Ra w v1 y) (bx : Rb 400 x) (by_ : Rb 400 y) (h0 : y ≠ 0) : Calls Tryz.prog 9 #[v0, v1] w (RaPostE w (x / y) 0) :=
  have hn : y.num.natAbs ≠ 0 := fun h => h0 (Rat.num_eq_zero.1 (by omega))
  (qquo_w hx hy bx.1 bx.2 by_.1 by_.2 x.den_nz hn).mono fun _ _ h => low_ratE (Nat.mul_ne_zero x.den_nz hn) (quo_eq h0) h
theorem qquoR0 {w : World} {v0 v1 : Value} {x y : Rat} (hx : Ra w v0 x) (hy : Ra w v1 y) (bx : Rb 400 x) (by_ : Rb 400 y) (h0 : y = 0) : Calls Tryz.prog 9 #[v0, v1] w (R3PostE w false 0 0 5) :=
  qquo0_w hx hy bx.1 bx.2 by_.1 by_.2 x.den_nz (by rw [h0]; rfl)
theorem qabsR {w : World} {v0 : Value} {x : Rat} (hx : Ra w v0 x) (bx : Rb 400 x) : Calls Tryz.prog 17 #[v0] w (RaPost w x.abs) :=
  (qabs_w hx (pw_lt1000 bx.1 (by omega)) (pw_lt1000 bx.2 (by omega))).mono fun e w' ⟨v, he, hR, hB⟩ => ⟨v, he, by
    unfold Ra
    have h : (decide (x.abs.num < 0)) = false ∧ x.abs.num.natAbs = x.num.natAbs ∧ x.abs.den = x.den := by
      unfold Rat.abs
      split
      · rename_i h
        rw [← Rat.num_nonneg] at h
        exact ⟨decide_eq_false (by omega), rfl, rfl⟩
      · rename_i h
        rw [← Rat.num_nonneg] at h
        rw [Rat.neg_num, Rat.neg_den, Int.natAbs_neg]
        exact ⟨decide_eq_false (by omega), rfl, rfl⟩
    rw [h.1, h.2.1, h.2.2]
    exact hR, hB⟩
theorem abs_bnd {x : Rat} {a : Nat} (hx : Rb a x) : Rb a x.abs := by
  unfold Rat.abs
  split
  · exact hx
  · exact neg_bnd hx
def BoolPost (w : World) (b : Bool) (e : Ending) (w' : World) : Prop := e = .returned (.bool b) ∧ Below w.heap.size w w'
set_option maxHeartbeats 4000000 in
set_option maxRecDepth 100000 in
theorem qsameR {w : World} {v0 v1 : Value} {x y : Rat} (hx : Ra w v0 x) (hy : Ra w v1 y) (bx : Rb 400 x) (by_ : Rb 400 y) : Calls Tryz.prog 11 #[v0, v1] w (BoolPost w (decide (x = y))) := by
  have hx' := hx
  have hy' := hy
  obtain ⟨A0, L0, c0, A1, L1, c1, rfl, hn0, hd0'⟩ := hx
  obtain ⟨A2, L2, c2, A3, L3, c3, rfl, hn1, hd1'⟩ := hy
  obtain ⟨g0, hg0⟩ : ∃ b, b = decide (x.num < 0) := ⟨_, rfl⟩
  obtain ⟨g1, hg1⟩ : ∃ b, b = decide (y.num < 0) := ⟨_, rfl⟩
  rw [← hg0] at hx' ⊢
  rw [← hg1] at hy' ⊢
  have HW := Aside0.mk (below_alloc (below_alloc (Below.refl w.heap.size w) (.cells #[.bool g0, .slice A0 L0 c0, .slice A1 L1 c1] 24)) (.cells #[.bool g1, .slice A2 L2 c2, .slice A3 L3 c3] 24))
  obtain ⟨c, hc⟩ : ∃ c, c = cmpQ x y := ⟨_, rfl⟩
  have HC := Aside0.mk (qcmpR (hx'.below HW.out) (hy'.below HW.out) bx by_)
  rw [← hc] at HC
  obtain ⟨b, hb⟩ : ∃ b, b = decide (x = y) := ⟨_, rfl⟩
  have hcb : (c == 0) = b := by
    rw [hb, hc]
    unfold cmpQ
    by_cases h : x < y
    · have : x ≠ y := Rat.ne_of_lt h
      simp [h, this]
    · by_cases h2 : x = y
      · simp [h2, Rat.lt_irrefl]
      · simp [h, h2]
  rw [← hb]
  clear hn0 hn1 hd0' hd1' hx' hy' hc hb hg0 hg1
  go_enter Tryz.func11, Tryz.ntmps11
  go_wp2_with fail
  refine HC.out.mono ?_
  rintro e w1 ⟨rfl, hB⟩
  have HB := Aside0.mk (HW.out.trans (hB.mono HW.out.size))
  clear hB
  go_wp2_with fail
  go_ret
  exact ⟨by first | rfl | rw [hcb], HB.out⟩
set_option maxHeartbeats 4000000 in
set_option maxRecDepth 100000 in
theorem ssame_w {w : World} {v0 v1 : Value} {g : Bool} {n d : Nat} (h0 : R3 w v0 g n d) (h1 : R3 w v1 g n d) (b0 : n < pw 1000) (b1 : d < pw 1000) : Calls Tryz.prog 12 #[v0, v1] w (TruePost w) := by
  obtain ⟨A0, L0, c0, A1, L1, c1, rfl, hn0, hd0⟩ := h0
  obtain ⟨A2, L2, c2, A3, L3, c3, rfl, hn1, hd1⟩ := h1
  obtain ⟨W0, a0, a1, hW0, e0, e1, HK0, HK1, HW⟩ := boxes2 w (.bool g) (.slice A0 L0 c0) (.slice A1 L1 c1) (.bool g) (.slice A2 L2 c2) (.slice A3 L3 c3) 24
  subst e0 e1
  have HX0 := Aside0.mk hn0
  have HX1 := Aside0.mk hd0
  have HX2 := Aside0.mk hn1
  have HX3 := Aside0.mk hd1
  have HC1 : Aside0 (Calls Tryz.prog 39 #[.slice A0 L0 c0, .slice A2 L2 c2] W0 (IntPost W0 0)) := ⟨by have h := rcmpN (hn0.below HW.out) (hn1.below HW.out) b0 b0; rwa [cmpZ_eq rfl] at h⟩
  have HC2 : Aside0 (∀ W, Below w.heap.size w W → Calls Tryz.prog 39 #[.slice A1 L1 c1, .slice A3 L3 c3] W (IntPost W 0)) := ⟨fun W h => by have h := rcmpN (HX1.out.below h) (HX3.out.below h) b1 b1; rwa [cmpZ_eq rfl] at h⟩
  clear hn0 hn1 hd0 hd1 b0 b1
  cases g with
  | true =>
    go_enter Tryz.func12, Tryz.ntmps12
    go_wp2_with fail
    rw [← hW0]
    clear hW0
    refine HC1.out.mono ?_
    rintro e w1 ⟨rfl, hB1⟩
    have HB1 := Aside0.mk (HW.out.trans (hB1.mono HW.out.size))
    obtain ⟨⟨hc0, hc1, hc2⟩, hf0, hf1, hf2⟩ := HK0.out.below hB1
    obtain ⟨⟨hd0, hd1, hd2⟩, hg0, hg1, hg2⟩ := HK1.out.below hB1
    clear hB1
    go_wp2_with fail
    refine (HC2.out _ HB1.out).mono ?_
    rintro e w2 ⟨rfl, hB2⟩
    have HB2 := Aside0.mk (HB1.out.trans (hB2.mono HB1.out.size))
    clear hB2
    go_wp2_with fail
    go_ret
    exact ⟨rfl, HB2.out⟩
  | false =>
    go_enter Tryz.func12, Tryz.ntmps12
    go_wp2_with fail
    rw [← hW0]
    clear hW0
    refine HC1.out.mono ?_
    rintro e w1 ⟨rfl, hB1⟩
    have HB1 := Aside0.mk (HW.out.trans (hB1.mono HW.out.size))
    obtain ⟨⟨hc0, hc1, hc2⟩, hf0, hf1, hf2⟩ := HK0.out.below hB1
    obtain ⟨⟨hd0, hd1, hd2⟩, hg0, hg1, hg2⟩ := HK1.out.below hB1
    clear hB1
    go_wp2_with fail
    refine (HC2.out _ HB1.out).mono ?_
    rintro e w2 ⟨rfl, hB2⟩
    have HB2 := Aside0.mk (HB1.out.trans (hB2.mono HB1.out.size))
    clear hB2
    go_wp2_with fail
    go_ret
    exact ⟨rfl, HB2.out⟩
end Go.Proofs.YtklhpobphloehaaGreatDoor.G
/- Rational numbers as values: rat.Text; the laws' known, within, Make; the reference's Int. -/
set_option linter.unusedVariables false
namespace Go.Proofs.YtklhpobphloehaaGreatDoor.G
open Go.RowKit Go.Proofs.YtklhpobphloehaaGreatDoorW.PrintWords Go.Proofs.YtklhpobphloehaaGreatDoorW.PrintLast Go.Proofs.YtklhpobphloehaaGreatDoor.Nn
open Go.Lib (decDigits)

def ratT (g : Bool) (n d : Nat) : List UInt8 := (if g then [45] else []) ++ decDigits n ++ (if d = 1 then [] else 47 :: decDigits d)
theorem dig_len {n : Nat} (h : n < pw 1000) : (decDigits n).length ≤ 10668 := dec_len_pw (k := 10667) h (by decide)
theorem box0 (w : World) (x0 x1 x2 : Value) (t : TypeId) : ∃ (W0 : World), W0 = w.alloc (.cells #[x0, x1, x2] t) ∧ Aside0 (Blk W0 w.heap.size x0 x1 x2) ∧ Aside0 (Below w.heap.size w W0) :=
  ⟨_, rfl, ⟨Blk_alloc w x0 x1 x2 t⟩, ⟨below_alloc (Below.refl _ _) _⟩⟩
theorem cat_lt {a b : ByteArray} {la lb : List UInt8} (ha : a.data.toList = la) (hb : b.data.toList = lb) : (a ++ b).data.toList = la ++ lb := by rw [str_app, ha, hb]
theorem cat_twoE (a b : ByteArray) (M : Nat) (h : a.size + b.size ≤ M) (hM : M ≤ 9223372036854775807) : ∃ c : ByteArray, ((∀ W : World, (Op.stringOp .add a b).run Tryz.prog W = .ok (.string c) W) ∧ c = a ++ b) ∧ c.size ≤ M :=
  ⟨a ++ b, ⟨fun W => run_string_add_sum W a b (by omega), rfl⟩, by rw [ByteArray.size_append']; exact h⟩
set_option maxHeartbeats 4000000 in
set_option maxRecDepth 100000 in
theorem qtext_w {w : World} {v0 : Value} {g : Bool} {n d : Nat} (h0 : R3 w v0 g n d) (b0 : n < pw 1000) (b1 : d < pw 1000) (hT : TabOk w) : Calls Tryz.prog 30 #[v0] w (TextPost w (ratT g n d)) := by
  obtain ⟨A0, L0, c0, A1, L1, c1, rfl, hn0, hd0⟩ := h0
  obtain ⟨W0, hW0, HK, HW⟩ := box0 w (.bool g) (.slice A0 L0 c0) (.slice A1 L1 c1) 24
  have HT1 : Aside0 (Calls Tryz.prog 56 #[.slice A0 L0 c0] W0 (TextPost W0 (decDigits n))) := ⟨textN (hn0.below HW.out) b0 (hT.below HW.out)⟩
  have H1 : Aside0 (∀ W : World, Calls Tryz.prog 52 #[] W (NuPost W 1)) := ⟨fun W => qone_w W⟩
  have HD := Aside0.mk hd0
  have BN := Aside0.mk b0
  have BD := Aside0.mk b1
  have HTB := Aside0.mk hT
  obtain ⟨zc, hzc⟩ : ∃ zc, zc = cmpZ d 1 := ⟨_, rfl⟩
  have HCM := Aside0.mk (fun (w1 W : World) (u2 : Value) (hB : Below w.heap.size w w1) (hW : Below w1.heap.size w1 W) (h : Nu W u2 1) => show Calls Tryz.prog 41 #[.slice A1 L1 c1, u2] W (fun e w' => e = .returned (.int .i64 zc) ∧ Aside0 (Below w1.heap.size w1 w')) from by
    have h := cmpN (HD.out.below (hB.trans (hW.mono hB.size))) h BD.out (pw_lt1000 (show 1 < pw 1 by decide) (by omega))
    exact h.mono fun _ _ k => ⟨by rw [hzc]; exact k.1, ⟨hW.trans (k.2.mono hW.size)⟩⟩)
  clear hn0 hd0 b0 b1 hT
  by_cases hd1 : d = 1
  · have HD1 := Aside0.mk hd1
    have hz0 : zc = 0 := by rw [hzc, hd1]; exact cmpZ_eq rfl
    subst hz0
    clear hd1 hzc
    cases g with
    | true =>
      go_enter Tryz.func30, Tryz.ntmps30
      go_wp2_with fail
      rw [← hW0]
      clear hW0
      refine HT1.out.mono ?_
      rintro e w1 ⟨s, rfl, hs, hB1⟩
      have hsz : s.size ≤ 10668 := by rw [bytes_size hs]; exact dig_len BN.out
      have HSS := Aside0.mk hs
      have HB1 := Aside0.mk (HW.out.trans (hB1.mono HW.out.size))
      have HKA := Aside0.mk (fun (W : World) (hW : Below w1.heap.size w1 W) => show W.cell? ⟨w.heap.size, 2, none⟩ = some (.slice A1 L1 c1) from ((HK.out.below hB1).below hW).1.2.2)
      have HKB := Aside0.mk (fun (W : World) (hW : Below w1.heap.size w1 W) => show W.cell? ⟨w.heap.size, 0, none⟩ = some (.bool true) from ((HK.out.below hB1).below hW).1.1)
      clear hs hB1
      go_wp2_with fail
      go_region_held3 (fun W => W.cell? ⟨w.heap.size, 2, none⟩ = some (.slice A1 L1 c1)) (first | exact HKA.out _ (Below.drew (Below.refl _ _)) | exact HKA.out _ HB3.out | exact HKA.out _ HB2.out | exact HKA.out _ (Below.refl _ _))
        (first
          | (go_at_call 52; (with_reducible refine (H1.out _).mono ?_); rintro e w2 ⟨v2, rfl, hN2, hB2⟩; have HN2 := Aside0.mk hN2; have HB2 := Aside0.mk (show Below w1.heap.size w1 w2 from (Below.drew (Below.refl w1.heap.size w1)).trans hB2); clear hN2 hB2)
          | (go_at_call 41; (with_reducible refine (HCM.out w1 _ _ HB1.out HB2.out HN2.out).mono ?_); rintro e w3 ⟨rfl, HB3⟩))
      have hk0 := HKB.out _ HB3.out
      have hone2 : (⟨#[45]⟩ : ByteArray).size ≤ 1 := by decide
      obtain ⟨r1, hr1, zr1⟩ := cat_twoE ⟨#[45]⟩ s 30000 (by omega) (by decide)
      have hcat3 := hr1.1
      have HR1L := Aside0.mk hr1.2
      clear hr1
      go_wp2_with fail
      go_ret
      exact ⟨_, rfl, by rw [HR1L.out, str_app, HSS.out]; unfold ratT; rw [if_pos rfl, if_pos HD1.out]; simp, HB1.out.trans (HB3.out.mono HB1.out.size)⟩
    | false =>
      go_enter Tryz.func30, Tryz.ntmps30
      go_wp2_with fail
      rw [← hW0]
      clear hW0
      refine HT1.out.mono ?_
      rintro e w1 ⟨s, rfl, hs, hB1⟩
      have hsz : s.size ≤ 10668 := by rw [bytes_size hs]; exact dig_len BN.out
      have HSS := Aside0.mk hs
      have HB1 := Aside0.mk (HW.out.trans (hB1.mono HW.out.size))
      have HKA := Aside0.mk (fun (W : World) (hW : Below w1.heap.size w1 W) => show W.cell? ⟨w.heap.size, 2, none⟩ = some (.slice A1 L1 c1) from ((HK.out.below hB1).below hW).1.2.2)
      have HKB := Aside0.mk (fun (W : World) (hW : Below w1.heap.size w1 W) => show W.cell? ⟨w.heap.size, 0, none⟩ = some (.bool false) from ((HK.out.below hB1).below hW).1.1)
      clear hs hB1
      go_wp2_with fail
      go_region_held3 (fun W => W.cell? ⟨w.heap.size, 2, none⟩ = some (.slice A1 L1 c1)) (first | exact HKA.out _ (Below.drew (Below.refl _ _)) | exact HKA.out _ HB3.out | exact HKA.out _ HB2.out | exact HKA.out _ (Below.refl _ _))
        (first
          | (go_at_call 52; (with_reducible refine (H1.out _).mono ?_); rintro e w2 ⟨v2, rfl, hN2, hB2⟩; have HN2 := Aside0.mk hN2; have HB2 := Aside0.mk (show Below w1.heap.size w1 w2 from (Below.drew (Below.refl w1.heap.size w1)).trans hB2); clear hN2 hB2)
          | (go_at_call 41; (with_reducible refine (HCM.out w1 _ _ HB1.out HB2.out HN2.out).mono ?_); rintro e w3 ⟨rfl, HB3⟩))
      have hk0 := HKB.out _ HB3.out
      go_wp2_with fail
      go_ret
      exact ⟨_, rfl, by rw [HSS.out]; unfold ratT; rw [if_neg (by decide), if_pos HD1.out]; simp, HB1.out.trans (HB3.out.mono HB1.out.size)⟩
  · have HD1 := Aside0.mk hd1
    have hz0 : (zc == 0) = false := by rw [hzc]; exact cmpZ_ne hd1
    have hz1 : (zc != 0) = true := by rw [bne, hz0]; rfl
    clear hd1 hzc
    cases g with
    | true =>
      go_enter Tryz.func30, Tryz.ntmps30
      go_wp2_with fail
      rw [← hW0]
      clear hW0
      refine HT1.out.mono ?_
      rintro e w1 ⟨s, rfl, hs, hB1⟩
      have hsz : s.size ≤ 10668 := by rw [bytes_size hs]; exact dig_len BN.out
      have HSS := Aside0.mk hs
      have HB1 := Aside0.mk (HW.out.trans (hB1.mono HW.out.size))
      have HKA := Aside0.mk (fun (W : World) (hW : Below w1.heap.size w1 W) => show W.cell? ⟨w.heap.size, 2, none⟩ = some (.slice A1 L1 c1) from ((HK.out.below hB1).below hW).1.2.2)
      have HKB := Aside0.mk (fun (W : World) (hW : Below w1.heap.size w1 W) => show W.cell? ⟨w.heap.size, 0, none⟩ = some (.bool true) from ((HK.out.below hB1).below hW).1.1)
      clear hs hB1
      go_wp2_with fail
      go_region_held3 (fun W => W.cell? ⟨w.heap.size, 2, none⟩ = some (.slice A1 L1 c1)) (first | exact HKA.out _ (Below.drew (Below.refl _ _)) | exact HKA.out _ HB3.out | exact HKA.out _ HB2.out | exact HKA.out _ (Below.refl _ _))
        (first
          | (go_at_call 52; (with_reducible refine (H1.out _).mono ?_); rintro e w2 ⟨v2, rfl, hN2, hB2⟩; have HN2 := Aside0.mk hN2; have HB2 := Aside0.mk (show Below w1.heap.size w1 w2 from (Below.drew (Below.refl w1.heap.size w1)).trans hB2); clear hN2 hB2)
          | (go_at_call 41; (with_reducible refine (HCM.out w1 _ _ HB1.out HB2.out HN2.out).mono ?_); rintro e w3 ⟨rfl, HB3⟩))
      have hk2 := HKA.out _ HB3.out
      have HT3 : Aside0 (Calls Tryz.prog 56 #[.slice A1 L1 c1] w3 (TextPost w3 (decDigits d))) := ⟨textN (HD.out.below (HB1.out.trans (HB3.out.mono HB1.out.size))) BD.out (HTB.out.below (HB1.out.trans (HB3.out.mono HB1.out.size)))⟩
      go_wp2_with fail
      refine HT3.out.mono ?_
      rintro e w4 ⟨u, rfl, hu, hB4⟩
      have huz : u.size ≤ 10668 := by rw [bytes_size hu]; exact dig_len BD.out
      have HUU := Aside0.mk hu
      have HB4 := Aside0.mk (HB3.out.trans (hB4.mono HB3.out.size))
      have hone : (⟨#[47]⟩ : ByteArray).size ≤ 1 := by decide
      obtain ⟨u1, hu1, zu1⟩ := cat_twoE ⟨#[47]⟩ u 10669 (by omega) (by decide)
      obtain ⟨t1, ht1, zt1⟩ := cat_twoE s u1 21337 (by omega) (by decide)
      have HT1L := Aside0.mk (show t1.data.toList = decDigits n ++ 47 :: decDigits d by rw [ht1.2, hu1.2, str_app, str_app, HSS.out, HUU.out]; rfl)
      have hcat1 := hu1.1
      have hcat2 := ht1.1
      clear hu hB4 hk2 hu1 ht1
      have hk0 := HKB.out _ HB4.out
      have hone2 : (⟨#[45]⟩ : ByteArray).size ≤ 1 := by decide
      obtain ⟨r1, hr1, zr1⟩ := cat_twoE ⟨#[45]⟩ t1 30000 (by omega) (by decide)
      have hcat3 := hr1.1
      have HR1L := Aside0.mk hr1.2
      clear hr1
      go_wp2_with fail
      go_ret
      exact ⟨_, rfl, by rw [HR1L.out, str_app, HT1L.out]; unfold ratT; rw [if_pos rfl, if_neg HD1.out]; simp, HB1.out.trans (HB4.out.mono HB1.out.size)⟩
    | false =>
      go_enter Tryz.func30, Tryz.ntmps30
      go_wp2_with fail
      rw [← hW0]
      clear hW0
      refine HT1.out.mono ?_
      rintro e w1 ⟨s, rfl, hs, hB1⟩
      have hsz : s.size ≤ 10668 := by rw [bytes_size hs]; exact dig_len BN.out
      have HSS := Aside0.mk hs
      have HB1 := Aside0.mk (HW.out.trans (hB1.mono HW.out.size))
      have HKA := Aside0.mk (fun (W : World) (hW : Below w1.heap.size w1 W) => show W.cell? ⟨w.heap.size, 2, none⟩ = some (.slice A1 L1 c1) from ((HK.out.below hB1).below hW).1.2.2)
      have HKB := Aside0.mk (fun (W : World) (hW : Below w1.heap.size w1 W) => show W.cell? ⟨w.heap.size, 0, none⟩ = some (.bool false) from ((HK.out.below hB1).below hW).1.1)
      clear hs hB1
      go_wp2_with fail
      go_region_held3 (fun W => W.cell? ⟨w.heap.size, 2, none⟩ = some (.slice A1 L1 c1)) (first | exact HKA.out _ (Below.drew (Below.refl _ _)) | exact HKA.out _ HB3.out | exact HKA.out _ HB2.out | exact HKA.out _ (Below.refl _ _))
        (first
          | (go_at_call 52; (with_reducible refine (H1.out _).mono ?_); rintro e w2 ⟨v2, rfl, hN2, hB2⟩; have HN2 := Aside0.mk hN2; have HB2 := Aside0.mk (show Below w1.heap.size w1 w2 from (Below.drew (Below.refl w1.heap.size w1)).trans hB2); clear hN2 hB2)
          | (go_at_call 41; (with_reducible refine (HCM.out w1 _ _ HB1.out HB2.out HN2.out).mono ?_); rintro e w3 ⟨rfl, HB3⟩))
      have hk2 := HKA.out _ HB3.out
      have HT3 : Aside0 (Calls Tryz.prog 56 #[.slice A1 L1 c1] w3 (TextPost w3 (decDigits d))) := ⟨textN (HD.out.below (HB1.out.trans (HB3.out.mono HB1.out.size))) BD.out (HTB.out.below (HB1.out.trans (HB3.out.mono HB1.out.size)))⟩
      go_wp2_with fail
      refine HT3.out.mono ?_
      rintro e w4 ⟨u, rfl, hu, hB4⟩
      have huz : u.size ≤ 10668 := by rw [bytes_size hu]; exact dig_len BD.out
      have HUU := Aside0.mk hu
      have HB4 := Aside0.mk (HB3.out.trans (hB4.mono HB3.out.size))
      have hone : (⟨#[47]⟩ : ByteArray).size ≤ 1 := by decide
      obtain ⟨u1, hu1, zu1⟩ := cat_twoE ⟨#[47]⟩ u 10669 (by omega) (by decide)
      obtain ⟨t1, ht1, zt1⟩ := cat_twoE s u1 21337 (by omega) (by decide)
      have HT1L := Aside0.mk (show t1.data.toList = decDigits n ++ 47 :: decDigits d by rw [ht1.2, hu1.2, str_app, str_app, HSS.out, HUU.out]; rfl)
      have hcat1 := hu1.1
      have hcat2 := ht1.1
      clear hu hB4 hk2 hu1 ht1
      have hk0 := HKB.out _ HB4.out
      go_wp2_with fail
      go_ret
      exact ⟨_, rfl, by rw [HT1L.out]; unfold ratT; rw [if_neg (by decide), if_neg HD1.out]; simp, HB1.out.trans (HB4.out.mono HB1.out.size)⟩
end Go.Proofs.YtklhpobphloehaaGreatDoor.G
/- The laws' own functions: known, within, Make; the reference's Int. -/
set_option linter.unusedVariables false
namespace Go.Proofs.YtklhpobphloehaaGreatDoor.G
open Go.RowKit Go.Proofs.YtklhpobphloehaaGreatDoorW.PrintWords Go.Proofs.YtklhpobphloehaaGreatDoorW.PrintLast Go.Proofs.YtklhpobphloehaaGreatDoor.Nn
open Go.Lib (decDigits)

theorem txt32 : ratT true 3 2 = [45, 51, 47, 50] := by
  unfold ratT
  rw [if_pos rfl, if_neg (by decide), decDigits_small (by decide), decDigits_small (by decide)]
  rfl
/-- What the law's Make makes of raw limbs. -/
def mkR (g : Bool) (l0 l1 : List Int) : Rat := mkRat (sg g (mk l0 3)) (if mk l1 3 = 0 then 1 + (digs (mk l0 3)).length else mk l1 3)
theorem mkR_bnd (g : Bool) {l0 l1 : List Int} (h0 : Lim l0) (h1 : Lim l1) : Rb 3 (mkR g l0 l1) := by
  have hx := mk_lt h0 3
  have hy := mk_lt h1 3
  have hd := digs_length_le hx
  unfold mkR
  split
  · refine mk_bnd (by rw [sg_abs]; exact hx) ?_ (by omega)
    have : pw 3 = 79228162514264337593543950336 := rfl
    omega
  · rename_i h
    exact mk_bnd (by rw [sg_abs]; exact hx) hy h
theorem litU (w : World) (k : Nat) (hk : 0 < k) (hk2 : k < 4294967296) : Nu (w.alloc (.cells #[.int .u32 (k : Int)] 49)) (.slice (some ⟨w.heap.size, 0, none⟩) 1 1) k := by
  have h : RU (w.alloc (.cells #[.int .u32 (k : Int)] 49)) w.heap.size (.slice (some ⟨w.heap.size, 0, none⟩) 1 1) [(k : Int)] := RU_own (own_lit w w.heap.size 49 .u32 [(k : Int)] (Nat.le_refl _) (by simp))
  have e : digs k = [(k : Int)] := by rw [digs_pos (by omega), Nat.mod_eq_of_lt hk2, Nat.div_eq_of_lt hk2, digs_zero]
  obtain ⟨A, c, ev, hc, hC⟩ := RU_slice h
  cases ev
  exact ⟨_, _, by rw [e]; rfl, by rw [e]; exact hc, by rw [e]; exact hC⟩
set_option maxHeartbeats 4000000 in
set_option maxRecDepth 100000 in
theorem within2_w (a n : Int) (w : World) (hn : 0 < n) (hn1 : n < 1000000) :
    Calls Tryz.prog 26 #[.int .i64 a, .int .i64 n] w fun e w' => e = .returned (.int .i64 (a % n)) ∧ w = w' := by
  obtain ⟨m, rfl⟩ : ∃ m : Nat, n = (m : Int) := ⟨n.toNat, by omega⟩
  have hmb := (tmod_emod (a := a) (m := m) (by omega))
  have H := Aside0.mk hmb
  have hb1 := hmb.2.2.1
  have hb2 := hmb.2.2.2
  have hz : ¬ (m = 0) := by omega
  clear hmb
  by_cases ha : 0 ≤ a
  · have hm0 : 0 ≤ a % (m : Int) := Int.emod_nonneg a (by omega)
    have hd : decide (a % (m : Int) < 0) = false := decide_eq_false (by omega)
    clear hb1 hb2 hm0
    go_enter Tryz.func26, Tryz.ntmps26
    go_wp2_with fail
    go_ret
    exact ⟨rfl, rfl⟩
  · by_cases hs : a.tmod m < 0
    · go_enter Tryz.func26, Tryz.ntmps26
      go_wp2_with fail
      go_ret
      exact ⟨by rw [← H.out.1 hs]; rfl, rfl⟩
    · go_enter Tryz.func26, Tryz.ntmps26
      go_wp2_with fail
      go_ret
      exact ⟨by rw [← H.out.2.1 hs]; rfl, rfl⟩
set_option maxHeartbeats 4000000 in
set_option maxRecDepth 100000 in
theorem known2_w (w : World) (hT : TabOk w) : Calls Tryz.prog 5 #[] w (TruePost w) := by
  have HO : Aside0 (Calls Tryz.prog 29 #[.int .i64 6, .int .i64 (-4)] w (R3PostE w true 3 2 0)) := ⟨(qof_w 6 (-4) w (by decide) (by decide) (by decide) (by decide)).mono fun e w' h => by
    unfold OfPost LowPostE at h
    rw [if_neg (by decide)] at h
    rw [show ((decide ((6 : Int).natAbs ≠ 0) && decide ((6 : Int) < 0) != decide ((-4 : Int) < 0))) = true from by decide, show (6 : Int).natAbs / Nat.gcd (6 : Int).natAbs (-4 : Int).natAbs = 3 from by decide, show (-4 : Int).natAbs / Nat.gcd (6 : Int).natAbs (-4 : Int).natAbs = 2 from by decide] at h
    exact h⟩
  have HTB := Aside0.mk hT
  clear hT
  go_enter Tryz.func5, Tryz.ntmps5
  go_wp2_with fail
  refine HO.out.mono ?_
  rintro e w1 ⟨v, rfl, ⟨A2, L2, c2, A3, L3, c3, rfl, h1, h2⟩, hB1⟩
  have HB1 := Aside0.mk hB1
  have HW := Aside0.mk (below_alloc (Below.refl w1.heap.size w1) (.cells #[.bool true, .slice A2 L2 c2, .slice A3 L3 c3] 24))
  have HX : Aside0 (Calls Tryz.prog 30 #[.agg #[.bool true, .slice A2 L2 c2, .slice A3 L3 c3]] (w1.alloc (.cells #[.bool true, .slice A2 L2 c2, .slice A3 L3 c3] 24)) (TextPost (w1.alloc (.cells #[.bool true, .slice A2 L2 c2, .slice A3 L3 c3] 24)) (ratT true 3 2))) := ⟨qtext_w ⟨A2, L2, c2, A3, L3, c3, rfl, h1.below HW.out, h2.below HW.out⟩ (pw_lt1000 (show 3 < pw 1 by decide) (by omega)) (pw_lt1000 (show 2 < pw 1 by decide) (by omega)) ((HTB.out.below hB1).below HW.out)⟩
  clear h1 h2 hB1
  go_wp2_with fail
  refine HX.out.mono ?_
  rintro e w2 ⟨s, rfl, hs, hB2⟩
  have hse : s = ⟨#[45, 51, 47, 50]⟩ := by rw [bytes_eq hs, txt32]
  subst hse
  have HB2 := Aside0.mk ((HB1.out.trans (HW.out.mono HB1.out.size)).trans (hB2.mono (Nat.le_trans HB1.out.size HW.out.size)))
  clear hs hB2
  go_wp2_with fail
  go_ret
  exact ⟨rfl, HB2.out⟩
set_option maxHeartbeats 4000000 in
set_option maxRecDepth 100000 in
theorem lmake_w {w : World} {A0 A1 : Option Addr} {c0 c1 : Nat} {l0 l1 : List Int} (g : Bool) (hr0 : CU w A0 l0.length l0) (hc0 : l0.length ≤ c0) (hL0 : Lim l0) (hr1 : CU w A1 l1.length l1) (hc1 : l1.length ≤ c1) (hL1 : Lim l1) :
    Calls Tryz.prog 6 #[.agg #[.bool g, .slice A0 l0.length c0, .slice A1 l1.length c1]] w (RaPost w (mkR g l0 l1)) := by
  obtain ⟨W0, a0, a1, hW0, e0, e1, HK0, HK1, HW, HGE⟩ := box1 w (.bool g) (.slice A0 l0.length c0) (.slice A1 l1.length c1) 24
  have HM1 := Aside0.mk (fun (W : World) (hW : Below W0.heap.size W0 W) => show Calls Tryz.prog 31 #[.slice A0 l0.length c0, .int .i64 3] W (StepB W0 W (mk l0 3)) from (makeN 3 (CU_below hr0 (HW.out.trans (hW.mono HW.out.size))) hc0 hL0 (by decide)).mono fun _ _ h => step_b hW h)
  have HM2 := Aside0.mk (fun (W : World) (hW : Below W0.heap.size W0 W) => show Calls Tryz.prog 31 #[.slice A1 l1.length c1, .int .i64 3] W (StepB W0 W (mk l1 3)) from (makeN 3 (CU_below hr1 (HW.out.trans (hW.mono HW.out.size))) hc1 hL1 (by decide)).mono fun _ _ h => step_b hW h)
  have BX := Aside0.mk (mk_lt hL0 3)
  have BY := Aside0.mk (mk_lt hL1 3)
  obtain ⟨X, hX⟩ : ∃ X, X = mk l0 3 := ⟨_, rfl⟩
  obtain ⟨Y, hY⟩ : ∃ Y, Y = mk l1 3 := ⟨_, rfl⟩
  have HE := Aside0.mk (show mkR g l0 l1 = mkRat (sg g X) (if Y = 0 then 1 + (digs X).length else Y) by unfold mkR; rw [hX, hY])
  rw [← hX] at HM1 BX
  rw [← hY] at HM2 BY
  obtain ⟨M, hM⟩ : ∃ M, M = l0.length := ⟨_, rfl⟩
  obtain ⟨K, hK⟩ : ∃ K, K = l1.length := ⟨_, rfl⟩
  rw [← hM] at HM1 HK0 hW0 ⊢
  rw [← hK] at HM2 HK0 hW0 ⊢
  have HS := Aside0.mk (fun (W : World) (hW : Below W0.heap.size W0 W) => show W.cell? ⟨a0, 0, none⟩ = some (.bool g) ∧ W.cell? ⟨a0, 1, none⟩ = some (.slice A0 M c0) ∧ W.cell? ⟨a0, 2, none⟩ = some (.slice A1 K c1) from (HK0.out.below hW).1)
  clear hr0 hc0 hL0 hr1 hc1 hL1 hX hY hM hK
  go_enter Tryz.func6, Tryz.ntmps6
  go_wp2_with fail
  rw [← hW0, ← e1, ← e0]
  clear hW0 e0 e1
  go_region_held3 (fun W => W.cell? ⟨a0, 0, none⟩ = some (.bool g) ∧ W.cell? ⟨a0, 1, none⟩ = some (.slice A0 M c0) ∧ W.cell? ⟨a0, 2, none⟩ = some (.slice A1 K c1)) (first | exact HS.out _ (Below.drew (Below.refl _ _)) | exact HS.out _ HB2.out | exact HS.out _ HB1.out | exact HS.out _ (Below.refl _ _))
    (first
      | (go_at_call 31; (with_reducible refine (HM1.out _ (by with_reducible repeat (first | exact Below.refl _ _ | exact HB2.out | exact HB1.out | refine Below.drew ?_))).mono ?_); rintro e w1 ⟨v1, rfl, hN1, hB1, hT1⟩; have HN1 := Aside0.mk hN1; have HB1 := Aside0.mk hB1; clear hN1 hB1 hT1)
      | (go_at_call 31; (with_reducible refine (HM2.out _ (by with_reducible repeat (first | exact Below.refl _ _ | exact HB2.out | exact HB1.out | refine Below.drew ?_))).mono ?_); rintro e w2 ⟨v2, rfl, hN2, hB2, hT2⟩; have HN2 := Aside0.mk hN2; have HB2 := Aside0.mk hB2; have HT2 := Aside0.mk hT2; clear hN2 hB2 hT2))
  clear HM1 HM2
  obtain ⟨A2, L2, c2, rfl, hN1⟩ := Nu_open (HT2.out _ _ HN1.out)
  obtain ⟨A3, L3, c3, rfl, hN2⟩ := Nu_open HN2.out
  have hl := Nu_len0 hN2
  have hLX := (Nu_parts hN1).1
  have HN1 := Aside0.mk hN1
  have HN2 := Aside0.mk hN2
  obtain ⟨kk0, kk1, kk2⟩ := HS.out _ HB2.out
  have HKR := Aside0.mk (HK1.out.below HB2.out)
  have HWT := Aside0.mk (HW.out.trans (HB2.out.mono HW.out.size))
  have hL2 : L2 ≤ 3 := by rw [hLX]; exact digs_length_le BX.out
  have HLX := Aside0.mk hLX
  clear hN1 hN2 hLX HB1 HT2
  by_cases hY0 : Y = 0
  · have hL : L3 = 0 := hl.2 hY0
    subst hL
    have hw1 : IntKind.u32.wrap (L2 : Int) = (L2 : Int) := by rw [IntKind.wrap_u32]; omega
    have hw2 : IntKind.u32.wrap (1 + (L2 : Int)) = 1 + (L2 : Int) := by rw [IntKind.wrap_u32]; omega
    have HE2 := Aside0.mk (show mkR g l0 l1 = mkRat (sg g X) (1 + L2) by rw [HE.out, if_pos hY0, HLX.out])
    have HLI := Aside0.mk (litU w2 (1 + L2) (by omega) (by omega))
    have HAB := Aside0.mk (below_alloc (Below.refl w2.heap.size w2) (.cells #[.int .u32 (1 + (L2 : Int))] 49))
    have HM3 : Aside0 (Calls Tryz.prog 32 #[.bool g, .slice A2 L2 c2, .slice (some ⟨w2.heap.size, 0, none⟩) 1 1] (w2.alloc (.cells #[.int .u32 (1 + (L2 : Int))] 49)) (LowPostE (w2.alloc (.cells #[.int .u32 (1 + (L2 : Int))] 49)) g X (1 + L2))) := ⟨smake_w g (HN1.out.below HAB.out) HLI.out (Nat.lt_of_lt_of_le BX.out (pw_le (by omega))) (Nat.lt_of_lt_of_le (show 1 + L2 < pw 1 by have : pw 1 = 4294967296 := rfl; omega) (pw_le (by omega))) (by omega)⟩
    clear hl hY0 kk0 kk1 kk2
    obtain ⟨kk0, kk1, kk2⟩ := HS.out _ (HB2.out.trans (HAB.out.mono HB2.out.size))
    go_wp2_with fail
    refine HM3.out.mono ?_
    rintro e w3 ⟨v, rfl, ⟨A4, L4, c4, A5, L5, c5, rfl, h1, h2⟩, hB⟩
    obtain ⟨b, hb⟩ : ∃ b, b = (decide (X ≠ 0) && g) := ⟨_, rfl⟩
    have HWB := Aside0.mk (below_alloc (Below.refl w3.heap.size w3) (.cells #[.bool b, .slice A4 L4 c4, .slice A5 L5 c5] 24))
    have hBB := HAB.out.trans (hB.mono HAB.out.size)
    obtain ⟨⟨ho0, ho1, ho2⟩, hf0, hf1, hf2⟩ := (HKR.out.below hBB).below HWB.out
    have HD := Aside0.mk (r3_done (neg := b) HWT.out HGE.out HKR.out (hBB.trans (HWB.out.mono hBB.size)) (h1.below HWB.out) (h2.below HWB.out))
    have HBB := Aside0.mk hb
    rw [← hb]
    clear hb h1 h2 hB hBB kk0 kk1 kk2
    go_wp2_with fail
    exact bodyPost_ret (v := .agg #[.bool b, .slice A4 L4 c4, .slice A5 L5 c5]) (by simp [results, Tryz.results6, go_sem, *]) rfl (low_rat (by omega) HE2.out (by unfold LowPost; rw [← HBB.out]; exact r3_postR HD.out))
  · have hLp : 0 < L3 := Nat.pos_of_ne_zero fun h => hY0 (hl.1 h)
    have hb1 : ((L3 : Int) == 0) = false := by rw [beq_eq_false_iff_ne]; omega
    have hb2 : (L3 == 0) = false := by rw [beq_eq_false_iff_ne]; omega
    have HE2 := Aside0.mk (show mkR g l0 l1 = mkRat (sg g X) Y by rw [HE.out, if_neg hY0])
    have HY0 := Aside0.mk hY0
    have HM3 : Aside0 (Calls Tryz.prog 32 #[.bool g, .slice A2 L2 c2, .slice A3 L3 c3] w2 (LowPostE w2 g X Y)) := ⟨smake_w g HN1.out HN2.out (Nat.lt_of_lt_of_le BX.out (pw_le (by omega))) (Nat.lt_of_lt_of_le BY.out (pw_le (by omega))) hY0⟩
    clear hl hY0
    go_wp2_with fail
    refine HM3.out.mono ?_
    rintro e w3 ⟨v, rfl, ⟨A4, L4, c4, A5, L5, c5, rfl, h1, h2⟩, hB⟩
    obtain ⟨b, hb⟩ : ∃ b, b = (decide (X ≠ 0) && g) := ⟨_, rfl⟩
    have HWB := Aside0.mk (below_alloc (Below.refl w3.heap.size w3) (.cells #[.bool b, .slice A4 L4 c4, .slice A5 L5 c5] 24))
    obtain ⟨⟨ho0, ho1, ho2⟩, hf0, hf1, hf2⟩ := (HKR.out.below hB).below HWB.out
    have HD := Aside0.mk (r3_done (neg := b) HWT.out HGE.out HKR.out (hB.trans (HWB.out.mono hB.size)) (h1.below HWB.out) (h2.below HWB.out))
    have HBB := Aside0.mk hb
    rw [← hb]
    clear hb h1 h2 hB kk0 kk1 kk2
    go_wp2_with fail
    exact bodyPost_ret (v := .agg #[.bool b, .slice A4 L4 c4, .slice A5 L5 c5]) (by simp [results, Tryz.results6, go_sem, *]) rfl (low_rat HY0.out HE2.out (by unfold LowPost; rw [← HBB.out]; exact r3_postR HD.out))
end Go.Proofs.YtklhpobphloehaaGreatDoor.G
/- Rational numbers as values: Right, the program's and the reference's, at numbers that are right. -/
set_option linter.unusedVariables false
namespace Go.Proofs.YtklhpobphloehaaGreatDoor.G
open Go.RowKit Go.Proofs.YtklhpobphloehaaGreatDoorW.PrintWords Go.Proofs.YtklhpobphloehaaGreatDoorW.PrintLast Go.Proofs.YtklhpobphloehaaGreatDoor.Nn

end Go.Proofs.YtklhpobphloehaaGreatDoor.G
/- x, y, z := Make(a), Make(b), Make(c) in a drawn order: what holds of each pair of a call and a box. -/
set_option linter.unusedVariables false
namespace Go.Proofs.YtklhpobphloehaaGreatDoor.G
open Go.RowKit Go.Proofs.YtklhpobphloehaaGreatDoorW.PrintWords Go.Proofs.YtklhpobphloehaaGreatDoorW.PrintLast Go.Proofs.YtklhpobphloehaaGreatDoor.Nn

/-- A box that may be written. -/
def BoxE (w : World) (p : Nat) : Prop := ∃ (x : Bool) (A1 : Option Addr) (L1 c1 : Nat) (A2 : Option Addr) (L2 c2 : Nat), Blk w p (.bool x) (.slice A1 L1 c1) (.slice A2 L2 c2)
/-- A box that holds v. -/
def Boxed (w : World) (p : Nat) (v : Value) : Prop := ∃ (x : Bool) (A1 : Option Addr) (L1 c1 : Nat) (A2 : Option Addr) (L2 c2 : Nat), v = .agg #[.bool x, .slice A1 L1 c1, .slice A2 L2 c2] ∧ Blk w p (.bool x) (.slice A1 L1 c1) (.slice A2 L2 c2)
theorem Boxed.box {w : World} {p : Nat} {v : Value} (h : Boxed w p v) : BoxE w p := by
  obtain ⟨x, A1, L1, c1, A2, L2, c2, _, h⟩ := h
  exact ⟨x, A1, L1, c1, A2, L2, c2, h⟩
theorem BoxE.below {w w1 : World} {p : Nat} (h : BoxE w p) (hb : Below w.heap.size w w1) : BoxE w1 p := by
  obtain ⟨x, A1, L1, c1, A2, L2, c2, h⟩ := h
  exact ⟨x, A1, L1, c1, A2, L2, c2, h.below hb⟩
theorem Boxed.below {w w1 : World} {p : Nat} {v : Value} (h : Boxed w p v) (hb : Below w.heap.size w w1) : Boxed w1 p v := by
  obtain ⟨x, A1, L1, c1, A2, L2, c2, e, h⟩ := h
  exact ⟨x, A1, L1, c1, A2, L2, c2, e, h.below hb⟩
theorem BoxE.lt {w : World} {p : Nat} (h : BoxE w p) : p < w.heap.size := by
  obtain ⟨x, A1, L1, c1, A2, L2, c2, h⟩ := h
  exact cell_lt h.1.1
/-- A box at q written. -/
def put3 (w : World) (q : Nat) (a b c : Value) : World := ((w.setCell ⟨q, 0, none⟩ a).setCell ⟨q, 1, none⟩ b).setCell ⟨q, 2, none⟩ c
theorem Blk_put3_far {w : World} {p q : Nat} {x y z a b c : Value} (h : Blk w p x y z) (hne : q ≠ p) : Blk (put3 w q a b c) p x y z :=
  Blk_far (Blk_far (Blk_far h hne) hne) hne
theorem Blk_put3 {w : World} {q : Nat} {x y z : Value} (h : Blk w q x y z) (a b c : Value) : Blk (put3 w q a b c) q a b c := by
  obtain ⟨⟨h0, h1, h2⟩, f0, f1, f2⟩ := h
  unfold put3
  refine ⟨⟨?_, ?_, ?_⟩, by simp only [World.frozen?_setCell]; exact f0, by simp only [World.frozen?_setCell]; exact f1, by simp only [World.frozen?_setCell]; exact f2⟩
  · rw [World.cell?_setCell_other (h := by intro h; cases h), World.cell?_setCell_other (h := by intro h; cases h), World.cell?_setCell_same (h := h0)]
  · have k1 : (w.setCell ⟨q, 0, none⟩ a).cell? ⟨q, 1, none⟩ = some y := by rw [World.cell?_setCell_other (h := by intro h; cases h)]; exact h1
    rw [World.cell?_setCell_other (h := by intro h; cases h), World.cell?_setCell_same (h := k1)]
  · have k2 : ((w.setCell ⟨q, 0, none⟩ a).setCell ⟨q, 1, none⟩ b).cell? ⟨q, 2, none⟩ = some z := by rw [World.cell?_setCell_other (h := by intro h; cases h), World.cell?_setCell_other (h := by intro h; cases h)]; exact h2
    rw [World.cell?_setCell_same (h := k2)]
theorem Ra_put3 {w : World} {q : Nat} (hq : BoxE w q) (a b c : Value) {v : Value} {x : Rat} (h : Ra w v x) : Ra (put3 w q a b c) v x := by
  obtain ⟨x0, A1, L1, c1, A2, L2, c2, hq⟩ := hq
  obtain ⟨A, L, k, A', L', k', e, h1, h2⟩ := h
  exact ⟨A, L, k, A', L', k', e, Nu_set3 hq a b c h1, Nu_set3 hq a b c h2⟩
/-- One pair: its call's answer, its box. -/
def J (w0 : World) (x : Rat) (cl al st : Bool) (sC sA : Value) (p : Nat) (w : World) : Prop :=
  (cl = true → Ra w sC x) ∧ (al = true → sA = .pointer (some ⟨p, 0, none⟩) ∧ w0.heap.size ≤ p ∧ BoxE w p) ∧ (st = true → cl = true ∧ al = true ∧ Boxed w p sC)
theorem J.start (w0 w : World) (x : Rat) (sC sA : Value) (p : Nat) : J w0 x false false false sC sA p w := ⟨nofun, nofun, nofun⟩
theorem J.below {w0 w w1 : World} {x : Rat} {cl al st : Bool} {sC sA : Value} {p : Nat} (h : J w0 x cl al st sC sA p w) (hb : Below w.heap.size w w1) : J w0 x cl al st sC sA p w1 :=
  ⟨fun e => R3.below (h.1 e) hb, fun e => ⟨(h.2.1 e).1, (h.2.1 e).2.1, (h.2.1 e).2.2.below hb⟩, fun e => ⟨(h.2.2 e).1, (h.2.2 e).2.1, (h.2.2 e).2.2.below hb⟩⟩
theorem J.call {w0 w w1 : World} {x : Rat} {al st : Bool} {sC sA v : Value} {p : Nat} (h : J w0 x false al st sC sA p w) (hb : Below w.heap.size w w1) (hv : Ra w1 v x) : J w0 x true al st v sA p w1 :=
  ⟨fun _ => hv, (h.below hb).2.1, fun e => nomatch (h.2.2 e).1⟩
theorem J.alloc {w0 w : World} {x : Rat} {cl st : Bool} {sC sA : Value} {p : Nat} {t : TypeId} (h : J w0 x cl false st sC sA p w) (h0 : w0.heap.size ≤ w.heap.size) :
    J w0 x cl true st sC (.pointer (some ⟨w.heap.size, 0, none⟩)) w.heap.size (w.alloc (.cells #[.bool false, .slice none 0 0, .slice none 0 0] t)) :=
  ⟨(h.below (below_alloc (Below.refl _ _) _)).1, fun _ => ⟨rfl, h0, _, _, _, _, _, _, _, Blk_alloc _ _ _ _ _⟩, fun e => nomatch (h.2.2 e).2.1⟩
theorem J.far {w0 w : World} {x : Rat} {cl al st : Bool} {sC sA : Value} {p q : Nat} (h : J w0 x cl al st sC sA p w) (hq : BoxE w q) (hne : al = true → q ≠ p) (a b c : Value) : J w0 x cl al st sC sA p (put3 w q a b c) := by
  refine ⟨fun e => Ra_put3 hq a b c (h.1 e), fun e => ?_, fun e => ?_⟩
  · obtain ⟨h1, h2, x0, A1, L1, c1, A2, L2, c2, h3⟩ := h.2.1 e
    exact ⟨h1, h2, x0, A1, L1, c1, A2, L2, c2, Blk_put3_far h3 (hne e)⟩
  · obtain ⟨e3, e2, x0, A1, L1, c1, A2, L2, c2, e1, h3⟩ := h.2.2 e
    exact ⟨e3, e2, x0, A1, L1, c1, A2, L2, c2, e1, Blk_put3_far h3 (hne e2)⟩
theorem J.store {w0 w : World} {x : Rat} {b : Bool} {A1 : Option Addr} {L1 c1 : Nat} {A2 : Option Addr} {L2 c2 : Nat} {sA : Value} {p : Nat} (h : J w0 x true true false (.agg #[.bool b, .slice A1 L1 c1, .slice A2 L2 c2]) sA p w) :
    J w0 x true true true (.agg #[.bool b, .slice A1 L1 c1, .slice A2 L2 c2]) sA p (put3 w p (.bool b) (.slice A1 L1 c1) (.slice A2 L2 c2)) := by
  obtain ⟨h1, h2, h3⟩ := h
  obtain ⟨e, h4, hE⟩ := h2 rfl
  have hE' := hE
  obtain ⟨x0, B1, M1, d1, B2, M2, d2, hK⟩ := hE'
  have hK2 := Blk_put3 hK (.bool b) (.slice A1 L1 c1) (.slice A2 L2 c2)
  exact ⟨fun _ => Ra_put3 hE _ _ _ (h1 rfl), fun _ => ⟨e, h4, _, _, _, _, _, _, _, hK2⟩, fun _ => ⟨rfl, rfl, _, _, _, _, _, _, _, rfl, hK2⟩⟩
/-- A pair that is done: its value, its box. -/
theorem J.done {w0 w : World} {x : Rat} {sC sA : Value} {p : Nat} (h : J w0 x true true true sC sA p w) :
    sA = .pointer (some ⟨p, 0, none⟩) ∧ w0.heap.size ≤ p ∧ ∃ (b : Bool) (A : Option Addr) (L c : Nat) (A' : Option Addr) (L' c' : Nat), sC = .agg #[.bool b, .slice A L c, .slice A' L' c'] ∧ Ra w (.agg #[.bool b, .slice A L c, .slice A' L' c']) x ∧ Blk w p (.bool b) (.slice A L c) (.slice A' L' c') := by
  obtain ⟨h1, h2, h3⟩ := h
  obtain ⟨_, _, b, A, L, c, A', L', c', rfl, hK⟩ := h3 rfl
  exact ⟨(h2 rfl).1, (h2 rfl).2.1, b, A, L, c, A', L', c', rfl, h1 rfl, hK⟩
theorem J.val {w0 w : World} {x : Rat} {al st : Bool} {sC sA : Value} {p : Nat} (h : J w0 x true al st sC sA p w) : ∃ (b : Bool) (A : Option Addr) (L c : Nat) (A' : Option Addr) (L' c' : Nat), sC = .agg #[.bool b, .slice A L c, .slice A' L' c'] := by
  obtain ⟨A, L, c, A', L', c', e, _⟩ := h.1 rfl
  exact ⟨_, A, L, c, A', L', c', e⟩
theorem J.lt {w0 w : World} {x : Rat} {cl st : Bool} {sC sA : Value} {p : Nat} (h : J w0 x cl true st sC sA p w) : p < w.heap.size := (h.2.1 rfl).2.2.lt
theorem below_put3 {B : Nat} {w wr : World} (h : Below B w wr) {g : Nat} (hg : B ≤ g) (a b c : Value) : Below B w (put3 wr g a b c) := below_set3 h hg a b c
end Go.Proofs.YtklhpobphloehaaGreatDoor.G
/- Rational numbers as values: Right at any limbs, the program's and the reference's. -/
set_option linter.unusedVariables false
namespace Go.Proofs.YtklhpobphloehaaGreatDoor.G
open Go.RowKit Go.Proofs.YtklhpobphloehaaGreatDoorW.PrintWords Go.Proofs.YtklhpobphloehaaGreatDoorW.PrintLast Go.Proofs.YtklhpobphloehaaGreatDoor.Nn

theorem norm_right {l : List Int} (h : rightB l = true) : Norm l := by
  unfold rightB at h
  unfold Norm
  cases l with
  | nil => simp
  | cons a l =>
    simp only [List.isEmpty_cons, Bool.false_or, bne_iff_ne, ne_eq] at h
    have hl : (a :: l).length - 1 < (a :: l).length := by simp
    rw [List.getD_eq_getElem?_getD, List.getElem?_eq_getElem hl] at h ⊢
    exact h
theorem Nu_raw {w : World} {A : Option Addr} {c : Nat} {l : List Int} (hr : CU w A l.length l) (hc : l.length ≤ c) (hL : Lim l) (h : rightB l = true) : Nu w (.slice A l.length c) (val l) := by
  have e := digs_val hL (norm_right h)
  exact ⟨A, c, by rw [e], by rw [e]; exact hc, by rw [e]; exact hr⟩
theorem len_raw {l : List Int} (hL : Lim l) (h : rightB l = true) : l.length = 0 ↔ val l = 0 := by
  have e := digs_length_zero (n := val l)
  rwa [digs_val hL (norm_right h)] at e
def rawB (g : Bool) (l0 l1 : List Int) : Bool := rightB l0 && (rightB l1 && (decide (l1.length ≠ 0) && ((decide (l0.length ≠ 0) || !g) && (Nat.gcd (val l0) (val l1) == 1))))
end Go.Proofs.YtklhpobphloehaaGreatDoor.G
