/- A machine of small worlds, and that it is the model's: second part: the small texts of this part, one behind another. -/
import Derived.Test.YtpegcppeobndcaaGreatDoorSC
import Derived.Orders
import Derived.LoopN
set_option linter.unusedVariables false
set_option maxHeartbeats 1000000
set_option maxRecDepth 512
namespace Go.Proofs.YtpegcppeobndcaaGreatDoor.Abs
theorem ifOk {P : Program} {s s' : Sem Value} {w : World} {ρ : Ren} {A A1 : AW} {v : Value} (h : Ok P s w ρ A v A1) (e : s'.run P w = s.run P w) : Ok P s' w ρ A v A1 := by
 obtain ⟨ρ1, v', w1, h1, h2⟩ := h
 exact ⟨ρ1, v', w1, e.trans h1, h2⟩
theorem LR.plain_eq {ρ : Ren} {l l' : List Value} (h : LR ρ l l') {n : Nat} (hp : l.all (plainV n) = true) : l = l' := by
 induction h with
 | nil => rfl
 | cons hv _ ih =>
  simp only [List.all_cons, Bool.and_eq_true] at hp
  rw [VR.plain_eq n _ _ hp.1 hv, ih hp.2]
theorem convA_ok {P : Program} {ρ : Ren} {A A1 : AW} {w : World} (hr : Rel ρ A w) {src dst : TypeId} {x x' v : Value} (hx : VR ρ x x') (e : convA P src dst x A = some (v, A1)) : Ok P (convert src dst x') w ρ A v A1 := by
 unfold convA at e
 split at e
 ·rename_i elem s h1 h2
  split at e
  ·rename_i h3
   cases hx
   have h4 := strBytes_ok (P := P) hr (elem := elem) e
   refine ifOk h4 ?_
   simp [convert, run_und h1, run_und h2, run_und h3]
  ·cases e
 ·rename_i elem a len cap h1 h2
  split at e
  ·rename_i h3
   split at e
   ·cases e
    cases hx
    refine Ok.same hr ?_ (.string _)
    simp [convert, run_und h1, run_und h2, run_und h3, Conv.bytesToString]
   ·rename_i b
    split at e
    ·rename_i c hc
     split at e
     ·rename_i hpl
      split at e
      ·rename_i u hu
       split at e
       ·rename_i hpu
        cases e
        obtain ⟨a', c2, rfl⟩ : ∃ a' c2, x' = .slice a' len c2 := by cases hx <;> exact ⟨_, _, rfl⟩
        have hconv : ∀ y : Value, (∀ b l, y ≠ .slice b l c2 ∨ True) → (convert src dst (.slice a' len c2)).run P w = (Conv.bytesToString (.slice a' len c2)).run P w := by
         intro y _
         simp [convert, run_und h1, run_und h2, run_und h3]
        refine Ok.same hr ?_ (VR.plainOk hpu)
        rw [hconv .nilFunc (fun _ _ => .inr trivial)]
        by_cases hl : len = 0
        ·subst hl
         rw [if_pos (by rfl)] at hc
         cases hc
         have hue : v = Value.string .empty := by
          have : pureRun P (bytesLoop (#[] : Array Value)) = some (.string .empty) := rfl
          rw [this] at hu
          cases hu
          rfl
         subst hue
         cases a' with
         | none => rfl
         | some a' => rfl
        ·rw [if_neg (by rw [Nat.beq_eq]; exact hl)] at hc
         obtain ⟨a2, rfl, hp⟩ : ∃ a2, a' = some a2 ∧ PR ρ b a2 := by
          cases hx with
          | sexact l c hh hk => exact ⟨_, rfl, _, hh, rfl, rfl⟩
          | sloose l c c1 x hh hk _ _ => exact ⟨_, rfl, _, hh, rfl, rfl⟩
          | sempty c1 x a1 hh hk => exact absurd rfl hl
          | svoid a1 hh hk => exact absurd rfl hl
         obtain ⟨c', q1, q2, q3⟩ := hr.cells hp hc
         have := q1.plain_eq hpl
         subst this
         have hload := run_loadCells_list (P := P) w a2 c q3
         rw [q2] at hload
         have : Conv.bytesToString (.slice (some a2) len c2) = loadCells a2 len >>= bytesLoop := rfl
         rw [this, Sem.run_bind, hload]
         exact pureRun_run _ _ hu w
       ·cases e
      ·cases e
     ·cases e
    ·cases e
  ·cases e
 ·split at e
  ·rename_i hp
   have := VR.plain_eq 9 _ _ hp hx
   subst this
   split at e
   ·rename_i u hu
    split at e
    ·rename_i hpu
     cases e
     exact Ok.same hr (pureRun_run _ _ hu w) (VR.plainOk hpu)
    ·cases e
   ·cases e
  ·cases e
theorem AR.get? {ρ : Ren} {a a' : Array Value} (h : AR ρ a a') {j : Nat} {v : Value} (e : a[j]? = some v) : ∃ v', a'[j]? = some v' ∧ VR ρ v v' := by
 obtain ⟨v', h1, h2⟩ := LR.get? h (j := j) (v := v) (by simpa using e)
 exact ⟨v', by simpa using h1, h2⟩
theorem lenA_ok {P : Program} {ρ : Ren} {A A1 : AW} {w : World} (hr : Rel ρ A w) {argTypes : Array TypeId} {ty : TypeId} {args args' : Array Value} {v : Value} (ha : AR ρ args args') (e : lenA P argTypes args A = some (v, A1)) : Ok P (Builtin.len_ argTypes ty args') w ρ A v A1 := by
 unfold lenA at e
 split at e
 ·rename_i t x ht hx
  obtain ⟨x', h1, h2⟩ := ha.get? hx
  split at e
  ·rename_i s hd
   cases e
   cases h2
   exact Ok.same hr (by simp [Builtin.len_, ht, h1, run_und hd, goInt]) (.int _ _)
  ·rename_i n el _ hd
   cases e
   exact Ok.same hr (by simp [Builtin.len_, ht, h1, run_und hd, goInt]) (.int _ _)
  ·rename_i el b n c hd
   cases e
   obtain ⟨b', c', rfl⟩ : ∃ b c, x' = .slice b n c := by cases h2 <;> exact ⟨_, _, rfl⟩
   exact Ok.same hr (by simp [Builtin.len_, ht, h1, run_und hd, goInt]) (.int _ _)
  ·rename_i k el hd
   cases e
   cases h2
   exact Ok.same hr (by simp [Builtin.len_, ht, h1, run_und hd, goInt]) (.int _ _)
  ·rename_i k el r hd
   split at e
   ·rename_i es hB
    cases e
    cases h2 with
    | map hh =>
     rename_i L
     obtain ⟨es', clk, q1, l, hp, he⟩ := hr.blk r L _ hh hB
     have e1 := hp.length_eq
     have e2 := he.length
     simp only [List.length_map, Array.length_toList] at e1
     refine Ok.same hr (v' := .int .i64 es.length) ?_ (.int _ _)
     simp [Builtin.len_, ht, h1, run_und hd, goInt, getObj_run q1]
     omega
   ·cases e
  ·cases e
 ·cases e
theorem nilSure_isNone {ρ : Ren} {A : AW} {w : World} (hr : Rel ρ A w) {y y' : Value} (hy : VR ρ y y') (h : nilSure A y = true) {b : Option Addr} {l c : Nat} (e : y = .slice b l c) : ∃ b' c', y' = .slice b' l c' ∧ b'.isNone = b.isNone := by
 subst e
 cases hy with
 | snil => exact ⟨_, _, rfl, rfl⟩
 | sexact l c hh hk => exact ⟨_, _, rfl, rfl⟩
 | sloose l c c1 x hh hk _ _ => exact ⟨_, _, rfl, rfl⟩
 | sempty c1 x a1 hh hk =>
  simp only [nilSure] at h
  split at h
  ·rename_i cc ro hB
   rw [(hr.blk _ _ _ hh hB).1] at hk
   cases hk
  ·simp at h
  ·cases h
 | svoid a1 hh hk =>
  simp only [nilSure] at h
  split at h
  ·rename_i cc ro hB
   rw [(hr.blk _ _ _ hh hB).1] at hk
   cases hk
  ·simp at h
  ·cases h
theorem nilB_run {P : Program} {ρ : Ren} {A : AW} {w : World} (hr : Rel ρ A w) {t : TypeId} {d : TypeDesc} (hd : P.underlying t = some d) {x x' y y' : Value} (hx : VR ρ x x') (hy : VR ρ y y') {b : Bool} (e : nilB A d x y = some b) :
  (Op.equal t x' y').run P w = .ok b w ∧ ∀ (op : BinOp) (ox oy : Operand), (eqGuard op t ox oy x' y').run P w = .ok () w := by
 have go : ∀ (u u' : Value) (r : Bool), (∀ n, (Op.equalIn (n + 1) t u u').run P w = .ok r w) → (Op.equal t u u').run P w = .ok r w := fun u u' r h => h 9999
 have guard : ∀ (u u' : Value), (match u, u' with | .nilIface, .nilIface => False | .agg _, .agg _ => False | _, _ => True) → ∀ (op : BinOp) (ox oy : Operand), (eqGuard op t ox oy u u').run P w = .ok () w := by
  intro u u' h op ox oy
  unfold eqGuard
  cases op <;> first
   | rfl
   | (cases u <;> cases u' <;> first | rfl | exact absurd h id)
 unfold nilB at e
 split at e
 ·split at e
  ·rename_i hs
   split at e
   ·cases e
    cases hx
    obtain ⟨b', c', rfl, hb⟩ := nilSure_isNone hr hy hs rfl
    exact ⟨go _ _ _ fun n => by simp [Op.equalIn, run_und hd, hb], guard _ _ trivial⟩
   ·cases e
  ·cases e
 ·split at e
  ·rename_i hs
   split at e
   ·cases e
    cases hy
    obtain ⟨b', c', rfl, hb⟩ := nilSure_isNone hr hx hs rfl
    refine ⟨go _ _ _ fun n => ?_, guard _ _ trivial⟩
    rw [← hb]
    cases b' <;> simp [Op.equalIn, run_und hd]
   ·cases e
  ·cases e
 ·cases e
  cases hx
  cases hy with
  | pnil => exact ⟨go _ _ _ fun n => by simp [Op.equalIn, run_und hd], guard _ _ trivial⟩
  | ptr hh => exact ⟨go _ _ _ fun n => by simp [Op.equalIn, run_und hd], guard _ _ trivial⟩
 ·cases e
  cases hy
  cases hx with
  | pnil => exact ⟨go _ _ _ fun n => by simp [Op.equalIn, run_und hd], guard _ _ trivial⟩
  | ptr hh => exact ⟨go _ _ _ fun n => by simp [Op.equalIn, run_und hd], guard _ _ trivial⟩
 ·cases e
  cases hx
  cases hy with
  | mnil => exact ⟨go _ _ _ fun n => by simp [Op.equalIn, run_und hd], guard _ _ trivial⟩
  | map hh => exact ⟨go _ _ _ fun n => by simp [Op.equalIn, run_und hd], guard _ _ trivial⟩
 ·cases e
  cases hy
  cases hx with
  | mnil => exact ⟨go _ _ _ fun n => by simp [Op.equalIn, run_und hd], guard _ _ trivial⟩
  | map hh => exact ⟨go _ _ _ fun n => by simp [Op.equalIn, run_und hd], guard _ _ trivial⟩
 ·cases e
  cases hx
  cases hy
  exact ⟨go _ _ _ fun n => by simp [Op.equalIn, run_und hd], guard _ _ trivial⟩
 ·cases e
  cases hx
  cases hy
  exact ⟨go _ _ _ fun n => by simp [Op.equalIn, run_und hd], guard _ _ trivial⟩
 ·cases e
theorem binA_ok {P : Program} {ρ : Ren} {A A1 : AW} {w : World} (hr : Rel ρ A w) {op : BinOp} {t : TypeId} {ox oy : Operand} {x x' y y' v : Value} (hx : VR ρ x x') (hy : VR ρ y y') (e : binA P op t ox oy x y A = some (v, A1)) :
  Ok P (do eqGuard op t ox oy x' y'; binOp op t x' y') w ρ A v A1 := by
 unfold binA at e
 split at e
 ·rename_i hp
  rw [Bool.and_eq_true] at hp
  have h1 := VR.plain_eq 9 _ _ hp.1 hx
  have h2 := VR.plain_eq 9 _ _ hp.2 hy
  subst h1 h2
  split at e
  ·rename_i u hu
   split at e
   ·rename_i hpu
    cases e
    exact Ok.same hr (pureRun_run _ _ hu w) (VR.plainOk hpu)
   ·cases e
  ·cases e
 ·cases hd : P.underlying t with
  | none =>
   rw [hd] at e
   split at e
   ·rename_i h; cases h
   ·rename_i h; cases h
   ·cases e
  | some d =>
   rw [hd] at e
   simp only [Option.bind_some] at e
   split at e
   ·rename_i b hb
    cases e
    obtain ⟨h1, h2⟩ := nilB_run hr hd hx hy hb
    refine Ok.same hr ?_ (.bool b)
    rw [Sem.run_bind, h2]
    simp only [Result.andThen]
    have : binOp .eql t x' y' = (do pure (.bool (← Op.equal t x' y')) : Sem Value) ∨ ∃ k a k' b, x' = .int k a ∧ y' = .int k' b := by
     cases x' <;> cases y' <;> first | exact .inl rfl | exact .inr ⟨_, _, _, _, rfl, rfl⟩ | skip
     all_goals first
      | (exfalso; unfold nilB at hb; cases hx <;> cases hy <;> (split at hb <;> simp_all))
    rcases this with h | ⟨k, a, k', b', rfl, rfl⟩
    ·rw [h]; simp [h1]
    ·exfalso
     cases hx
     cases hy
     unfold nilB at hb
     split at hb <;> simp_all
   ·rename_i b hb
    cases e
    obtain ⟨h1, h2⟩ := nilB_run hr hd hx hy hb
    refine Ok.same hr ?_ (.bool _)
    rw [Sem.run_bind, h2]
    simp only [Result.andThen]
    have : binOp .neq t x' y' = (do pure (.bool (!(← Op.equal t x' y'))) : Sem Value) ∨ ∃ k a k' b, x' = .int k a ∧ y' = .int k' b := by
     cases x' <;> cases y' <;> first | exact .inl rfl | exact .inr ⟨_, _, _, _, rfl, rfl⟩ | skip
     all_goals first
      | (exfalso; unfold nilB at hb; cases hx <;> cases hy <;> (split at hb <;> simp_all))
    rcases this with h | ⟨k, a, k', b', rfl, rfl⟩
    ·rw [h]; simp [h1]
    ·exfalso
     cases hx
     cases hy
     unfold nilB at hb
     split at hb <;> simp_all
   ·cases e
theorem nilCheckA_ok {P : Program} {ρ : Ren} {A : AW} {w : World} (hr : Rel ρ A w) {x x' v : Value} (hx : VR ρ x x') (e : nilCheckA x = some v) {o : Oper} {y : Operand} (ho : o.op = .nilCheck y) {f : Operand → Value} (hf : f y = x') :
  ∃ v', (execOp f o).run P w = .ok (.value v') w ∧ VR ρ v v' := by
 unfold nilCheckA at e
 split at e
 ·cases e
  cases hx with
  | ptr hh => exact ⟨_, by simp [execOp, ho, hf, Sem.run], .ptr hh⟩
 ·cases e
  cases hx with
  | func f ha hc h1 h2 => exact ⟨_, by simp [execOp, ho, hf, Sem.run], .func _ ha hc h1 h2⟩
 ·cases e
theorem rangeA_ok {P : Program} {ρ : Ren} {A A1 : AW} {w : World} (hr : Rel ρ A w) {t : TypeId} {x x' v : Value} (hx : VR ρ x x') (e : rangeA P t x A = some (v, A1)) : Ok P (Instr.range t x') w ρ A v A1 := by
 unfold rangeA at e
 split at e
 ·rename_i s hd
  cases e
  cases hx
  obtain ⟨k1, k2⟩ := hr.add (w1 := { w with heap := w.heap.push (.stringIter s 0) }) ⟨w.heap.size, 0, .exact, 0⟩ (.iter s 0) (by simp) (fun k hk => by simp [Array.getElem?_push, Nat.ne_of_lt hk])
   ⟨rfl, by simp⟩ (fun _ => Nat.le_refl _) (fun h => by cases h) rfl rfl rfl
  refine ⟨_, .pointer (some ⟨w.heap.size, 0, none⟩), _, ?_, k1, k2, .ptr (k := 0) (L := ⟨w.heap.size, 0, .exact, 0⟩) (by simp [Ren.up])⟩
  simp [Instr.range, run_und hd]
 ·cases e
theorem nextA_ok {P : Program} {ρ : Ren} {A A1 : AW} {w : World} (hr : Rel ρ A w) {b : Bool} {t : TypeId} {x x' v : Value} (hx : VR ρ x x') (e : nextA x b A = some (v, A1)) : Ok P (Instr.next x' b t) w ρ A v A1 := by
 unfold nextA at e
 split at e
 ·rename_i r
  split at e
  ·rename_i s pos hB
   cases hx with
   | ptr hh =>
    rename_i L
    obtain ⟨h0, h1⟩ := hr.blk r L _ hh hB
    have hin : L.b < w.heap.size := hr.lt hh hB rfl
    rw [h0]
    split at e
    ·rename_i hp
     cases e
     obtain ⟨k1, k2⟩ := hr.change (w1 := { w with heap := w.heap.setIfInBounds L.b (.stringIter s (pos + (Utf8.decode s pos).2)) }) hh hB rfl (.iter s (pos + (Utf8.decode s pos).2)) rfl (by simp) (fun l hl => by simp [Array.getElem?_setIfInBounds_ne (Ne.symm hl)]) ⟨h0, by simp [hin]⟩ rfl rfl rfl
     refine ⟨ρ, .tuple #[.bool true, .int .i64 pos, .int .i32 (Utf8.decode s pos).1], _, ?_, k1, k2, VR.plain 9 _ (by rfl)⟩
     simp [Instr.next, getObj, setObj, Sem.run, h1, hp, goInt]
    ·rename_i hp
     cases e
     refine Ok.same hr (v' := .tuple #[.bool false]) ?_ (VR.plain 9 _ (by rfl))
     simp [Instr.next, getObj, Sem.run, h1, hp]
  ·cases e
 ·cases e
theorem s_zeroCells {ρ : Ren} {z : Array Value} (h : AR ρ z z) (n : Nat) : AR ρ (Builtin.zeroCells z n) (Builtin.zeroCells z n) := zeros_same h (n * z.size)
theorem clearA_ok {P : Program} (G : Good P) {ρ : Ren} {A A1 : AW} {w : World} (hr : Rel ρ A w) {argTypes : Array TypeId} {ty : TypeId} {args args' : Array Value} (ha : AR ρ args args') {v : Value} (e : clearA P argTypes args A = some (v, A1)) : Ok P (Builtin.clear_ argTypes ty args') w ρ A v A1 := by
 unfold clearA at e
 split at e
 ·rename_i t a n c ht hx
  obtain ⟨x', h1, h2⟩ := ha.get? hx
  split at e
  ·rename_i elem hd
   split at e
   ·cases e
    refine Ok.same hr (v' := .tuple #[]) ?_ (VR.plain 9 _ (by rfl))
    cases h2 with
    | snil => simp [Builtin.clear_, ht, h1, run_und hd]
    | sexact l c hh hk => simp [Builtin.clear_, ht, h1, run_und hd]
    | sloose l c c1 x hh hk _ _ => simp [Builtin.clear_, ht, h1, run_und hd]
    | sempty c1 x a1 hh hk => cases a1 <;> simp [Builtin.clear_, ht, h1, run_und hd]
    | svoid a1 hh hk => cases a1 <;> simp [Builtin.clear_, ht, h1, run_und hd]
   ·rename_i a n
    split at e
    ·rename_i z hz
     have hzr := zero_run (P := P) hz w
     split at e
     case isFalse => cases e
     rename_i hzp
     split at e
     ·rename_i u A2 hrun
      cases e
      obtain ⟨a', c', rfl, hp⟩ : ∃ a' c', x' = .slice (some a') (n + 1) c' ∧ PR ρ a a' := by
       cases h2 with
       | sexact l c hh hk => exact ⟨_, _, rfl, _, hh, rfl, rfl⟩
       | sloose l c c1 x hh hk _ _ => exact ⟨_, _, rfl, _, hh, rfl, rfl⟩
      obtain ⟨ρ2, u', w1, k1, k2, k3, _⟩ := s_storeCells _ _ 0 ρ a a' hp (s_zeroCells (VR.plain (ρ := ρ) 20 z hzp).cells (n + 1)) ρ A w _ _ (Ext.refl _) hr hrun
      refine ⟨ρ2, .tuple #[], w1, ?_, k2, k3, VR.plain 9 _ (by rfl)⟩
      simp [Builtin.clear_, ht, h1, run_und hd, hzr, k1]
     ·cases e
    ·cases e
   ·cases e
  ·cases e
 ·cases e
def Base (W0 : World) (ρ : Ren) (A : AW) (w : World) : Prop := Fr (fun _ => none) AW.empty W0 ρ A w
def FOk (P : Program) (W0 : World) (F : CallF) : Prop := ∀ (f : FuncId) (args : Array Value) (A : AW) (v : Value) (A1 : AW), F f args A = some (v, A1) → ∀ (ρ : Ren) (w : World) (args' : Array Value), AR ρ args args' → Rel ρ A w → Base W0 ρ A w →
 Calls P f args' w (fun e w1 => ∃ ρ1 v', e = .returned v' ∧ Rel ρ1 A1 w1 ∧ Fr ρ A w ρ1 A1 w1 ∧ VR ρ1 v v')
theorem AR.map {ρ : Ren} {t : TV} {a : Act} (xs : Array Operand) (h : ∀ x ∈ xs, VR ρ (evL t x) (a.eval x)) : AR ρ (xs.map (evL t)) (xs.map a.eval) := by
 refine AR.of (by simp) fun j h1 h2 => ?_
 simp only [Array.getElem_map]
 exact h _ (by simp)
theorem AR.append {ρ : Ren} {a a' b b' : Array Value} (h : AR ρ a a') (k : AR ρ b b') : AR ρ (a ++ b) (a' ++ b') := by
 unfold AR
 rw [Array.toList_append, Array.toList_append]
 exact LR.append h k
theorem PsR.of {ρ : Ren} {t : TV} {a : Act} : ∀ (ps : List (Nat × Operand)), (∀ p ∈ ps, VR ρ (evL t p.2) (a.eval p.2)) → PsR ρ (ps.map fun (i, x) => (i, evL t x)) (ps.map fun (i, x) => (i, a.eval x))
 | [], _ => .nil
 | p :: ps, h => .cons _ (h p (by simp)) (PsR.of ps fun q hq => h q (by simp [hq]))
theorem ovr_map {ρ : Ren} {t : TV} {a : Act} (x : Option Operand) (h : ∀ y, x = some y → VR ρ (evL t y) (a.eval y)) : OVR ρ (x.map (evL t)) (x.map a.eval) := by
 cases x with
 | none => exact .none
 | some y => exact .some (h y rfl)
theorem wp_of_ok {P : Program} {s : Sem Value} {w : World} {ρ : Ren} {A A1 : AW} {v : Value} (h : Ok P s w ρ A v A1) {o : Oper} {a : Act} (e : execOp a.eval o = (do pure (.value (← s)) : Sem Next)) {next : Act → World → Prop} {Q : Exit → Act → World → Prop}
  (hn : ∀ ρ1 v' w1, Rel ρ1 A1 w1 → Fr ρ A w ρ1 A1 w1 → VR ρ1 v v' → next (a.put o.dst v') w1) : o.wp P a w next Q := by
 obtain ⟨ρ1, v', w1, h1, h2, h3, h4⟩ := h
 unfold Oper.wp
 rw [e, Sem.run_bind, h1]
 exact hn ρ1 v' w1 h2 h3 h4
theorem runA_value {P : Program} {s : Sem Value} {A A1 : AW} {v : Value} (h : asVal (runA P (do pure (.value (← s)) : Sem Next) A) = some (v, A1)) : runA P s A = some (v, A1) := by
 have : runA P (do pure (.value (← s)) : Sem Next) A = match runA P s A with | some (x, A) => some (.value x, A) | none => none := by
  change runA P (s.bind _) A = _
  rw [runA_bind]
  cases runA P s A with
  | none => rfl
  | some p => rfl
 rw [this] at h
 cases hs : runA P s A with
 | none => rw [hs] at h; cases h
 | some p => rw [hs] at h; cases h; rfl
theorem both_of {a b : Bool} (h : ¬ ((!a || !b) = true)) : a = true ∧ b = true := by cases a <;> cases b <;> simp_all
theorem s_loadAt {P : Program} {ρ : Ren} (t : TypeId) {x x' : Value} (h : VR ρ x x') : Sim P VR ρ (Instr.loadAt t x) (Instr.loadAt t x') := Sim.bind (s_sureAddr h) fun _ _ _ _ ha => s_loadVar t ha
theorem s_storeAt {P : Program} {ρ : Ren} (t : TypeId) {x x' v v' : Value} (h : VR ρ x x') (hv : VR ρ v v') : Sim P RAny ρ (Instr.storeAt t x v) (Instr.storeAt t x' v') := Sim.bind (s_sureAddr h) fun _ _ _ e ha => s_storeVar t ha (hv.mono e)
theorem invoke_enter {P : Program} (G : Good P) {f : FuncId} (hb : hasBody P f = true) (args : Array Value) (w : World) : (callFunc f args).run P w = .ok (.enter f args) w := by
 unfold hasBody at hb
 cases hf : P.funcs[f]? with
 | none => rw [hf] at hb; cases hb
 | some fn =>
  rw [hf] at hb
  simp only at hb
  have hn := G.names f fn hf
  have hnone : fn.body.isNone = false := by cases h : fn.body <;> simp_all
  unfold callFunc
  change (match P.funcs[f]? with | none => _ | some fn => _ : Sem Next).run P w = _
  rw [hf]
  simp [hn, hnone]
theorem exA_ok {P : Program} (G : Good P) {F : CallF} {W0 : World} (hF : FOk P W0 F) {t : TV} {o : Oper} {A A1 : AW} {v : Value} (he : exA P F t o A = some (v, A1)) {ρ : Ren} {w : World} (hr : Rel ρ A w) (hb0 : Base W0 ρ A w) {a : Act}
  (ho : ∀ x ∈ o.op.operands, opndOk x = true → VR ρ (evL t x) (a.eval x)) {next : Act → World → Prop} {Q : Exit → Act → World → Prop} (hn : ∀ ρ1 v' w1, Rel ρ1 A1 w1 → Fr ρ A w ρ1 A1 w1 → VR ρ1 v v' → next (a.put o.dst v') w1) : o.wp P a w next Q := by
 unfold exA at he
 split at he
 ·cases he
 ·rename_i hall
  have hall2 : o.op.operands.all opndOk = true ∧ typOk P o.op = true := both_of hall
  have htyp := hall2.2
  have hall : ∀ x ∈ o.op.operands, opndOk x = true := Array.all_eq_true'.1 hall2.1
  have hv : ∀ x ∈ o.op.operands, VR ρ (evL t x) (a.eval x) := fun x hx => ho x hx (hall x hx)
  clear ho hall hall2
  obtain ⟨dst, op, ty, pos, after, guard⟩ := o
  cases op with
  | move x => cases he; exact hn ρ _ w hr (Fr.refl _ _ _) (hv x (by simp [Op.operands]))
  | assign x => cases he; exact hn ρ _ w hr (Fr.refl _ _ _) (hv x (by simp [Op.operands]))
  | makeFunc f x y =>
   cases he
   exact hn ρ _ w hr (Fr.refl _ _ _) (VR.funcL f (AR.map x fun z hz => hv z (by simp [Op.operands, hz])) (AR.map y fun z hz => hv z (by simp [Op.operands, hz])))
  | pick c x y =>
   have hc := hv c (by simp [Op.operands])
   have hx := hv x (by simp [Op.operands])
   have hy := hv y (by simp [Op.operands])
   simp only at he
   split at he
   ·rename_i hb
    cases he
    rw [hb] at hc
    generalize hz : a.eval c = z at hc
    cases hc
    unfold Oper.wp
    simp only [execOp, hz, asBool]
    exact hn ρ _ w hr (Fr.refl _ _ _) hx
   ·rename_i hb
    cases he
    rw [hb] at hc
    generalize hz : a.eval c = z at hc
    cases hc
    unfold Oper.wp
    simp only [execOp, hz, asBool]
    exact hn ρ _ w hr (Fr.refl _ _ _) hy
   ·cases he
  | alloc el => exact wp_of_ok (Ok.sim hr (s_alloc G el htyp) (runA_value he)) rfl hn
  | box el x => exact wp_of_ok (Ok.sim hr (s_box el (hv x (by simp [Op.operands]))) (runA_value he)) rfl hn
  | build el ps =>
   have hps : PsR ρ ((ps.map fun (i, x) => (i, evL t x)).toList) ((ps.map fun (i, x) => (i, a.eval x)).toList) := by
    rw [Array.toList_map, Array.toList_map]
    exact PsR.of _ fun p hp => hv p.2 (by simp only [Op.operands, List.mem_toArray, List.mem_map]; exact ⟨p, hp, rfl⟩)
   exact wp_of_ok (Ok.sim hr (s_build G el htyp hps) (runA_value he)) rfl hn
  | buildSlice el n ps =>
   have hps : PsR ρ ((ps.map fun (i, x) => (i, evL t x)).toList) ((ps.map fun (i, x) => (i, a.eval x)).toList) := by
    rw [Array.toList_map, Array.toList_map]
    exact PsR.of _ fun p hp => hv p.2 (by simp only [Op.operands, List.mem_toArray, List.mem_map]; exact ⟨p, hp, rfl⟩)
   exact wp_of_ok (Ok.sim hr (s_buildSlice G el (fun el2 hd => by simpa [typOk, hd] using htyp) n hps) (runA_value he)) rfl hn
  | load el x => exact wp_of_ok (Ok.sim hr (s_loadAt el (hv x (by simp [Op.operands]))) (runA_value he)) rfl hn
  | unOp op el x => exact wp_of_ok (Ok.sim hr (s_unary op (hv x (by simp [Op.operands]))) (runA_value he)) rfl hn
  | makeMap el r =>
   cases r with
   | none => exact wp_of_ok (Ok.sim hr (s_makeMap el) (runA_value he)) rfl hn
   | some r => cases he
  | makeSlice el l c => exact wp_of_ok (Ok.sim hr (s_makeSlice G el (fun el2 hd => by simpa [typOk, hd] using htyp) (hv l (by simp [Op.operands])) (hv c (by simp [Op.operands]))) (runA_value he)) rfl hn
  | fieldAddr el x f => exact wp_of_ok (Ok.sim hr (s_fieldAt el f (hv x (by simp [Op.operands]))) (runA_value he)) rfl hn
  | field el x f => exact wp_of_ok (Ok.sim hr (s_field el f (hv x (by simp [Op.operands]))) (runA_value he)) rfl hn
  | indexAddr el x i => exact wp_of_ok (Ok.sim hr (s_indexAt el (hv x (by simp [Op.operands])) (hv i (by simp [Op.operands]))) (runA_value he)) rfl hn
  | index el x i => exact wp_of_ok (Ok.sim hr (s_index el (hv x (by simp [Op.operands])) (hv i (by simp [Op.operands]))) (runA_value he)) rfl hn
  | extract x i => exact wp_of_ok (Ok.sim hr (s_extract (hv x (by simp [Op.operands])) i) (runA_value he)) rfl hn
  | range el x => exact wp_of_ok (rangeA_ok hr (hv x (by simp [Op.operands])) he) rfl hn
  | next x b => exact wp_of_ok (nextA_ok hr (hv x (by simp [Op.operands])) he) rfl hn
  | lookup el m k ok => exact wp_of_ok (lookA_ok G hr (hv m (by simp [Op.operands])) (hv k (by simp [Op.operands])) he) rfl hn
  | convert s d x => exact wp_of_ok (convA_ok hr (hv x (by simp [Op.operands])) he) rfl hn
  | binOp op el x y yt => exact wp_of_ok (binA_ok hr (hv x (by simp [Op.operands])) (hv y (by simp [Op.operands])) he) rfl hn
  | slice el x lo hi mx =>
   exact wp_of_ok (sliceA_ok hr (hv x (by simp [Op.operands])) (ovr_map lo fun y hy => hv y (by simp [Op.operands, hy])) (ovr_map hi fun y hy => hv y (by simp [Op.operands, hy])) (ovr_map mx fun y hy => hv y (by simp [Op.operands, hy])) he) rfl hn
  | nilCheck x =>
   simp only at he
   split at he
   ·rename_i u hu
    cases he
    obtain ⟨v', h1, h2⟩ := nilCheckA_ok (P := P) (o := { dst := dst, op := .nilCheck x, type := ty, pos := pos, after := after, guard := guard }) hr (hv x (by simp [Op.operands])) hu rfl (f := a.eval) rfl
    unfold Oper.wp
    rw [h1]
    exact hn ρ v' w hr (Fr.refl _ _ _) h2
   ·cases he
  | mapUpdate el m k x =>
   obtain ⟨rfl, w1, h1, h2, h3⟩ := updA_ok hr (hv m (by simp [Op.operands])) (hv k (by simp [Op.operands])) (hv x (by simp [Op.operands])) he
   unfold Oper.wp
   simp only [execOp, Sem.run_bind, h1, Result.andThen]
   exact hn ρ undef w1 h2 h3 (VR.plain 9 _ (by rfl))
  | insert el m k x =>
   obtain ⟨rfl, w1, h1, h2, h3⟩ := updA_ok hr (hv m (by simp [Op.operands])) (hv k (by simp [Op.operands])) (hv x (by simp [Op.operands])) he
   unfold Oper.wp
   simp only [execOp, Sem.run_bind, h1, Result.andThen]
   exact hn ρ undef w1 h2 h3 (VR.plain 9 _ (by rfl))
  | store el x y =>
   have hs := s_storeAt (P := P) el (hv x (by simp [Op.operands])) (hv y (by simp [Op.operands]))
   have h0 : asSkip (runA P (execOp (evL t) { dst := dst, op := .store el x y, type := ty, pos := pos, after := after, guard := guard }) A) = match runA P (Instr.storeAt el (evL t x) (evL t y)) A with | some (_, A) => some (undef, A) | none => none := by
    change asSkip (runA P ((Instr.storeAt el (evL t x) (evL t y)).bind _) A) = _
    rw [runA_bind]
    cases runA P (Instr.storeAt el (evL t x) (evL t y)) A with
    | none => rfl
    | some p => rfl
   simp only [h0] at he
   cases hs1 : runA P (Instr.storeAt el (evL t x) (evL t y)) A with
   | none => rw [hs1] at he; cases he
   | some p =>
    obtain ⟨u, A2⟩ := p
    rw [hs1] at he
    cases he
    obtain ⟨ρ2, u', w1, k1, k2, k3, _⟩ := hs ρ A w u A1 (Ext.refl _) hr hs1
    unfold Oper.wp
    simp only [execOp, Sem.run_bind, k1, Result.andThen]
    exact hn ρ2 undef w1 k2 k3 (VR.plain 9 _ (by rfl))
  | call c =>
   obtain ⟨callee, args, argTypes⟩ := c
   have hargs : AR ρ (args.map (evL t)) (args.map a.eval) := AR.map args fun x hx => hv x (by simp [Op.operands, Call.operands, hx])
   cases callee with
   | value f =>
    simp only at he
    have hf := hv f (by simp [Op.operands, Call.operands])
    split at he
    ·rename_i g first captured hg
     split at he
     ·rename_i hb
      rw [hg] at hf
      obtain ⟨first', captured', hfe, h1, h2⟩ : ∃ f' c', a.eval f = .func (.func g) f' c' ∧ AR ρ first f' ∧ AR ρ captured c' := by
       generalize a.eval f = z at hf
       cases hf with
       | func _ ha hc h1 h2 => exact ⟨_, _, rfl, AR.of ha h1, AR.of hc h2⟩
      have hcall := hF g _ A v A1 he ρ w _ ((h1.append hargs).append h2) hr hb0
      unfold Oper.wp
      have : (execOp a.eval { dst := dst, op := .call { callee := .value f, args := args, argTypes := argTypes }, type := ty, pos := pos, after := after, guard := guard }).run P w = .ok (.enter g ((first' ++ args.map a.eval) ++ captured')) w := by
       simp only [execOp, resolve, hfe, Deferred.ofValue]
       exact invoke_enter G hb _ w
      rw [this, Oper.upon_enter]
      refine hcall.mono ?_
      rintro e w1 ⟨ρ1, v', rfl, k1, k2, k3⟩
      exact hn ρ1 v' w1 k1 k2 k3
     ·cases he
    ·cases he
   | invoke r m => cases he
   | builtin b =>
    cases b <;> simp only at he <;> try (cases he; done)
    case append =>
     split at he
     ·rename_i s x heq
      rw [heq] at hargs
      obtain ⟨s', x', hs', h1, h2⟩ : ∃ s' x', args.map a.eval = #[s', x'] ∧ VR ρ s s' ∧ VR ρ x x' := by
       generalize args.map a.eval = z at hargs
       obtain ⟨z⟩ := z
       cases hargs with
       | cons h1 t => cases t with
        | cons h2 t => cases t; exact ⟨_, _, rfl, h1, h2⟩
      refine wp_of_ok (appA_ok (ty := ty) hr h1 h2 he) ?_ hn
      simp only [execOp, resolve]
      rw [hs']
      rfl
     ·cases he
    case len => exact wp_of_ok (lenA_ok (ty := ty) hr hargs he) rfl hn
    case clear => exact wp_of_ok (clearA_ok (ty := ty) G hr hargs he) rfl hn
    case min =>
     split at he
     ·rename_i hp
      have := hargs.plain_eq hp
      have hae : args.map (evL t) = args.map a.eval := Array.ext' this
      split at he
      ·rename_i u hu
       split at he
       ·rename_i hpu
        cases he
        have hu := pureRun_run _ _ hu w
        unfold Oper.wp
        have : (execOp a.eval { dst := dst, op := .call { callee := .builtin .min, args := args, argTypes := argTypes }, type := ty, pos := pos, after := after, guard := guard }).run P w = .ok (.value v) w := by
         rw [hae] at hu
         exact hu
        rw [this]
        exact hn ρ v w hr (Fr.refl _ _ _) (VR.plainOk hpu)
       ·cases he
      ·cases he
     ·cases he
    case max =>
     split at he
     ·rename_i hp
      have := hargs.plain_eq hp
      have hae : args.map (evL t) = args.map a.eval := Array.ext' this
      split at he
      ·rename_i u hu
       split at he
       ·rename_i hpu
        cases he
        have hu := pureRun_run _ _ hu w
        unfold Oper.wp
        have : (execOp a.eval { dst := dst, op := .call { callee := .builtin .max, args := args, argTypes := argTypes }, type := ty, pos := pos, after := after, guard := guard }).run P w = .ok (.value v) w := by
         rw [hae] at hu
         exact hu
        rw [this]
        exact hn ρ v w hr (Fr.refl _ _ _) (VR.plainOk hpu)
       ·cases he
      ·cases he
     ·cases he
  | _ => cases he
theorem eqList_eq {α : Type} {f : α → α → Bool} : ∀ (a b : List α), (∀ x ∈ a, ∀ y, f x y = true → x = y) → eqList f a b = true → a = b
  | [], [], _, _ => rfl
  | [], _ :: _, _, h => by simp [eqList] at h
  | _ :: _, [], _, h => by simp [eqList] at h
  | x :: a, y :: b, hf, h => by
    simp only [eqList, Bool.and_eq_true] at h
    rw [hf x (by simp) y h.1, eqList_eq a b (fun z hz => hf z (by simp [hz])) h.2]
theorem eqV_eq : ∀ (n : Nat) (v w : Value), eqV n v w = true → v = w := by
  intro n
  induction n with
  | zero => intro v w h; simp [eqV] at h
  | succ n ih =>
    have arr : ∀ (a b : Array Value), eqList (eqV n) a.toList b.toList = true → a = b := fun a b h => Array.ext' (eqList_eq _ _ (fun x _ y => ih x y) h)
    intro v w h
    cases v <;> cases w <;> simp only [eqV, Bool.and_eq_true, decide_eq_true_eq, Nat.beq_eq, beq_iff_eq] at h <;> try (cases h; done)
    · rw [h]
    · rw [h.1, h.2]
    · rename_i a b
      have h := eqList_eq _ _ (fun x _ y => of_decide_eq_true) h
      obtain ⟨⟨a⟩⟩ := a
      obtain ⟨⟨b⟩⟩ := b
      simp only at h
      rw [h]
    · rw [h]
    · rw [h.1.1, h.1.2, h.2]
    · rw [h]
    · rw [h.1.1, arr _ _ h.1.2, arr _ _ h.2]
    · rfl
    · rfl
    · rw [arr _ _ h]
    · rw [arr _ _ h]
theorem eqB_eq (B C : ABlk) (h : eqB B C = true) : B = C := by
  cases B <;> cases C <;> simp only [eqB, Bool.and_eq_true] at h <;> try (cases h; done)
  · rename_i c r k d s l
    have h1 := eqList_eq _ _ (fun x _ y => eqV_eq 9 x y) h.1.1
    have h2 : r = s := by simpa using h.1.2
    have h3 : k = l := by
      have := h.2
      cases k <;> cases l <;> simp [eqKd] at this <;> first | rfl | rw [this]
    rw [h1, h2, h3]
  · rename_i a b
    have h1 := eqList_eq a b (fun x _ y hxy => by
      simp only [eqE, Bool.and_eq_true] at hxy
      exact Prod.ext (eqV_eq 9 _ _ hxy.1) (eqV_eq 9 _ _ hxy.2)) h
    rw [h1]
def RO (P : Program) {α : Type} (s : Sem α) : Prop := ∀ (A : AW) (x : α) (A1 : AW), runA P s A = some (x, A1) → A1 = A ∧ ∀ A2 : AW, (∀ i B, A.get i = some B → A2.get i = some B) → runA P s A2 = some (x, A2)
theorem ro_pu {P : Program} {α : Type} {s : Sem α} (h : Pu P s) : RO P s := by
  intro A x A1 e
  rcases h with ⟨y, _, h2⟩ | h
  · rw [h2] at e
    cases e
    exact ⟨rfl, fun A2 _ => h2 A2⟩
  · rw [h] at e; cases e
theorem ro_bind {P : Program} {α β : Type} {s : Sem α} {f : α → Sem β} (h : RO P s) (k : ∀ x, RO P (f x)) : RO P (s >>= f) := by
  intro A y A1 e
  change runA P (s.bind f) A = _ at e
  rw [runA_bind] at e
  cases hs : runA P s A with
  | none => rw [hs] at e; cases e
  | some p =>
    obtain ⟨x, A'⟩ := p
    rw [hs] at e
    obtain ⟨rfl, h2⟩ := h A x A' hs
    obtain ⟨rfl, h3⟩ := k x A' y A1 e
    refine ⟨rfl, fun A2 hA => ?_⟩
    change runA P (s.bind f) A2 = _
    rw [runA_bind, h2 A2 hA]
    exact h3 A2 hA
theorem ro_ret {P : Program} {α : Type} (x : α) : RO P (pure x : Sem α) := ro_pu (pu_ret x)
theorem ro_load {P : Program} (a : Addr) : RO P (load a) := by
  intro A x A1 e
  simp only [Go.load, runA] at e
  cases hc : A.cell? a with
  | none => rw [hc] at e; cases e
  | some v =>
    rw [hc] at e
    cases e
    refine ⟨rfl, fun A2 hA => ?_⟩
    have : A2.cell? a = some x := by
      unfold AW.cell? at hc ⊢
      cases hs : a.spot with
      | some s => rw [hs] at hc; simp at hc
      | none =>
        rw [hs] at hc
        cases hB : A.get a.block with
        | none => rw [hB] at hc; simp at hc
        | some B =>
          rw [hB] at hc
          rw [hA _ _ hB]
          exact hc
    simp only [Go.load, runA, this]
theorem ro_loadCellsFrom {P : Program} : ∀ (n i : Nat) (a : Addr) (acc : Array Value), RO P (loadCellsFrom a i n acc)
  | 0, i, a, acc => ro_ret _
  | n + 1, i, a, acc => ro_bind (ro_load _) fun v => ro_loadCellsFrom n (i + 1) a _
theorem ro_loadVar {P : Program} (t : TypeId) (a : Addr) : RO P (loadVar t a) := by
  refine ro_bind (ro_pu (pu_isAgg t)) fun b => ?_
  cases b with
  | true => exact ro_bind (ro_pu (pu_sizeOf t)) fun n => ro_bind (ro_loadCellsFrom n 0 a _) fun _ => ro_ret _
  | false => exact ro_load a
theorem pu_sureAddr {P : Program} (v : Value) : Pu P (Instr.sureAddr v) := by
  unfold Instr.sureAddr
  split
  · exact pu_ret _
  · exact pu_halt _
theorem pu_vain {P : Program} {α : Type} {s : Sem α} (h : ∀ A, runA P s A = none) : Pu P s := .inr h
theorem pu_part {P : Program} (t : TypeId) (cs : Array Value) (off : Nat) : Pu P (part t cs off) := by
  refine pu_bind (pu_isAgg t) fun b => ?_
  cases b with
  | true => exact pu_bind (pu_sizeOf t) fun _ => pu_ret _
  | false =>
    simp only [Bool.false_eq_true, if_false]
    split
    · exact pu_ret _
    · exact pu_halt _
theorem pu_asAgg {P : Program} (v : Value) : Pu P (asAgg v) := by
  unfold asAgg
  split
  · exact pu_ret _
  · exact pu_halt _
theorem pu_field {P : Program} (t : TypeId) (v : Value) (f : Nat) : Pu P (Instr.field t v f) := by
  refine pu_bind (pu_underlying t) fun d => ?_
  cases d <;> first | exact pu_halt _ | skip
  rename_i fs
  dsimp only
  split
  · exact pu_bind (pu_asAgg v) fun _ => pu_part _ _ _
  · exact pu_halt _
theorem runA_byteOf {P : Program} (a : Addr) (h : a.spot = none) (A : AW) : runA P (Go.byteOf a) A = none := by
  unfold Go.byteOf
  rw [h]
  rfl
theorem runA_partAt {P : Program} (a : Addr) (c b : Nat) (A : AW) : runA P (partAt a c b) A = none := by
  unfold partAt
  cases hs : a.spot with
  | none => exact runA_first_none (fun A => runA_byteOf a hs A) A
  | some s =>
    refine runA_bind_none (fun x A => ?_) A
    exact runA_first_none (fun A => runA_byteOf _ rfl A) A
theorem pu_fieldPlace {P : Program} (a : Addr) (f : Field) : Pu P (fieldPlace a f) := by
  refine pu_bind (pu_sizeOf _) fun n => ?_
  by_cases hn : n = 0
  · simp only [if_pos hn]; exact pu_vain fun A => runA_partAt _ _ _ A
  · simp only [if_neg hn]; exact pu_ret _
theorem pu_fieldAt {P : Program} (t : TypeId) (v : Value) (f : Nat) : Pu P (Instr.fieldAt t v f) := by
  refine pu_bind (pu_underlying t) fun d => ?_
  cases d <;> first | exact pu_halt _ | skip
  rename_i fs
  dsimp only
  split
  · exact pu_bind (pu_sureAddr v) fun a => pu_bind (pu_fieldPlace a _) fun _ => pu_ret _
  · exact pu_halt _
theorem pu_bounds {P : Program} {α : Type} (k : IntKind) (x y : Int) (c : BoundsCode) : Pu P (boundsPanic k x y c : Sem α) := pu_vain fun A => runA_bounds k x y c A
theorem pu_index {P : Program} (t : TypeId) (x i : Value) : Pu P (Instr.index t x i) := by
  refine pu_bind (pu_asIntOf i) fun q => ?_
  obtain ⟨k, n⟩ := q
  refine pu_bind (pu_underlying t) fun d => ?_
  try dsimp only
  split
  · split
    · exact pu_bind (pu_sizeOf _) fun _ => pu_part _ _ _
    · exact pu_bounds _ _ _ _
  · split
    · exact pu_ret _
    · exact pu_bounds _ _ _ _
  · exact pu_halt _
theorem pu_indexAt {P : Program} (t : TypeId) (x i : Value) : Pu P (Instr.indexAt t x i) := by
  refine pu_bind (pu_asIntOf i) fun q => ?_
  obtain ⟨k, n⟩ := q
  have fin : ∀ (base : Option Addr) (len elem : Nat), Pu P
        (do let tiny := len ≤ 1 && (match ← underlying t with | .array .. => true | _ => false)
            match base with
            | some a =>
              if 0 ≤ n ∧ n < len then pure (.pointer (some (a.add (n.toNat * (← Go.sizeOf elem)))))
              else if tiny then unsupported (.noEntry "op/indexAddr.an index out of range at an array of length 0 or 1 (ledger 616)")
              else boundsPanic k n len .index
            | none => boundsPanic k n 0 .index : Sem Value) := by
    intro base len elem
    refine pu_bind (pu_underlying t) fun d => ?_
    cases base with
    | none => exact pu_bounds _ _ _ _
    | some a =>
      dsimp only
      by_cases hc : 0 ≤ n ∧ n < (len : Int)
      · simp only [if_pos hc]; exact pu_bind (pu_sizeOf _) fun _ => pu_ret _
      · simp only [if_neg hc]
        split <;> (split <;> first | exact pu_halt _ | exact pu_bounds _ _ _ _)
  refine pu_bind (pu_underlying t) fun d => ?_
  dsimp only
  split
  · exact pu_bind (pu_sureAddr x) fun a => fin (some a) _ _
  · exact fin _ _ _
  · exact pu_halt _
theorem pu_extract {P : Program} (v : Value) (i : Nat) : Pu P (Instr.extract v i) := by
  unfold Instr.extract
  split
  · split
    · exact pu_ret _
    · exact pu_halt _
  · exact pu_halt _
theorem pu_zero {P : Program} (t : TypeId) : Pu P (zeroValue t) := by
  refine pu_bind (pu_typeInfo t) fun i => ?_
  cases i.zero
  · exact pu_halt _
  · exact pu_ret _
theorem pu_build {P : Program} (t : TypeId) (ps : Array (Nat × Value)) : Pu P (Instr.build t ps) := by
  refine pu_bind (pu_zero t) fun z => ?_
  refine pu_bind (pu_underlying t) fun d => ?_
  cases d <;> first | exact pu_halt _ | skip
  · refine pu_bind (pu_sizeOf _) fun pl => ?_
    try dsimp only
    split
    · exact pu_ret _
    · exact pu_halt _
  · refine pu_bind (s_getPlaces _) fun pl => ?_
    try dsimp only
    split
    · exact pu_ret _
    · exact pu_halt _
theorem pu_unary {P : Program} (op : UnOp) (u : Value) : Pu P (Op.unary op u) := by
  unfold Op.unary
  split <;> first | exact pu_ret _ | exact pu_halt _ | (unfold Op.intArith; exact pu_ret _) | (unfold Op.intBits; dsimp only; split <;> first | exact pu_ret _ | exact pu_halt _)
theorem ro_loadAt {P : Program} (t : TypeId) (x : Value) : RO P (Instr.loadAt t x) := ro_bind (ro_pu (pu_sureAddr x)) fun a => ro_loadVar t a
theorem asVal_ro {P : Program} {s : Sem Value} (h : RO P s) {A A1 : AW} {v : Value} (e : asVal (runA P (do pure (.value (← s)) : Sem Next) A) = some (v, A1)) : A1 = A ∧ ∀ A2 : AW, (∀ i B, A.get i = some B → A2.get i = some B) → asVal (runA P (do pure (.value (← s)) : Sem Next) A2) = some (v, A2) := by
  have e := runA_value e
  obtain ⟨rfl, h2⟩ := h A v A1 e
  refine ⟨rfl, fun A2 hA => ?_⟩
  change asVal (runA P (s.bind _) A2) = _
  rw [runA_bind, h2 A2 hA]
  rfl
theorem asVal_pu {P : Program} {s : Sem Value} (h : Pu P s) {A A1 : AW} {v : Value} (e : asVal (runA P (do pure (.value (← s)) : Sem Next) A) = some (v, A1)) : A1 = A ∧ ∀ A2 : AW, asVal (runA P (do pure (.value (← s)) : Sem Next) A2) = some (v, A2) := by
  have e := runA_value e
  rcases h with ⟨y, _, h2⟩ | h
  · rw [h2] at e
    cases e
    refine ⟨rfl, fun A2 => ?_⟩
    change asVal (runA P (s.bind _) A2) = _
    rw [runA_bind, h2]
    rfl
  · rw [h] at e; cases e
theorem nilSure_mono {A A2 : AW} (h : ∀ i B, A.get i = some B → A2.get i = some B) {v : Value} (e : nilSure A v = true) : nilSure A2 v = true := by
  unfold nilSure at e ⊢
  split at e
  · rfl
  · rename_i a l c
    cases hB : A.get a.block with
    | none => rw [hB] at e; cases e
    | some B => rw [hB] at e; simp only [h _ _ hB]; exact e
  · first
      | rfl
      | (split <;> first | rfl | simp_all)
theorem nilB_mono {A A2 : AW} (h : ∀ i B, A.get i = some B → A2.get i = some B) {d : TypeDesc} {x y : Value} {b : Bool} (e : nilB A d x y = some b) : nilB A2 d x y = some b := by
  unfold nilB at e ⊢
  split at e
  · split at e
    · rename_i hs
      simp only [nilSure_mono h hs, if_true]
      exact e
    · cases e
  · split at e
    · rename_i hs
      simp only [nilSure_mono h hs, if_true]
      exact e
    · cases e
  all_goals exact e
theorem exR_mono {P : Program} {F : CallF} {t : TV} {o : Oper} (hk : readOp o.op = true) {A A1 : AW} {v : Value} (e : exA P F t o A = some (v, A1)) (hnx : A1.next = A.next) :
    A1 = A ∧ ∀ A2 : AW, (∀ i B, A.get i = some B → A2.get i = some B) → exA P F t o A2 = some (v, A2) := by
  obtain ⟨dst, op, ty, pos, after, guard⟩ := o
  unfold exA at e ⊢
  split at e
  · cases e
  rename_i hops
  simp only [if_neg hops]
  cases op <;> simp only [readOp] at hk <;> try (cases hk; done)
  case move x => cases e; exact ⟨rfl, fun _ _ => rfl⟩
  case pick c x y =>
    simp only at e ⊢
    split at e
    · cases e; exact ⟨rfl, fun _ _ => rfl⟩
    · cases e; exact ⟨rfl, fun _ _ => rfl⟩
    · cases e
  case build t ps => exact asVal_ro (ro_pu (pu_build _ _)) e
  case load t x => exact asVal_ro (ro_loadAt _ _) e
  case nilCheck x =>
    simp only at e ⊢
    split at e
    · rename_i u hu
      cases e
      exact ⟨rfl, fun _ _ => rfl⟩
    · cases e
  case unOp op t x => exact asVal_ro (ro_pu (pu_unary _ _)) e
  case binOp op t x y yt =>
    simp only [binA] at e ⊢
    split at e
    · rename_i hp
      simp only [if_pos hp]
      split at e
      · rename_i u hu
        split at e
        · rename_i hpu
          cases e; exact ⟨rfl, fun _ _ => by rw [if_pos hpu]⟩
        · cases e
      · cases e
    · rename_i hp
      simp only [if_neg hp]
      cases hd : P.underlying t with
      | none => rw [hd] at e; simp at e
      | some d =>
        rw [hd] at e
        simp only [Option.bind_some] at e ⊢
        cases hb : nilB A d (evL _ x) (evL _ y) with
        | none => rw [hb] at e; simp at e
        | some b =>
          rw [hb] at e
          cases op <;> simp only at e <;> first
            | cases e; exact ⟨rfl, fun A2 hA => by rw [nilB_mono hA hb]⟩
            | cases e
  case makeFunc f x y => cases e; exact ⟨rfl, fun _ _ => rfl⟩
  case fieldAddr t x f => exact asVal_ro (ro_pu (pu_fieldAt _ _ _)) e
  case field t x f => exact asVal_ro (ro_pu (pu_field _ _ _)) e
  case indexAddr t x i => exact asVal_ro (ro_pu (pu_indexAt _ _ _)) e
  case index t x i => exact asVal_ro (ro_pu (pu_index _ _ _)) e
  case extract x i => exact asVal_ro (ro_pu (pu_extract _ _)) e
  case lookup t m k ok =>
    simp only [lookA] at e ⊢
    split at e
    · rename_i kt et r hd hm
      split at e
      · cases e
      · rename_i es hes
        have hes2 : ∀ A2 : AW, (∀ i B, A.get i = some B → A2.get i = some B) → mapOf A2 r = some es := by
          intro A2 hA
          cases r with
          | none => exact hes
          | some i =>
            simp only [mapOf] at hes ⊢
            cases hB : A.get i with
            | none => rw [hB] at hes; cases hes
            | some B => rw [hB] at hes; rw [hA _ _ hB]; exact hes
        split at e
        · rename_i hkf
          split at e
          · rename_i hf hz
            cases e
            exact ⟨rfl, fun A2 hA => by rw [hes2 A2 hA]; simp only [if_pos hkf, hf, hz]⟩
          · rename_i hf hz
            split at e
            · rename_i hpl
              cases e
              exact ⟨rfl, fun A2 hA => by rw [hes2 A2 hA]; simp only [if_pos hkf, hf, hz, if_pos hpl]⟩
            · cases e
          · cases e
        · cases e
    · cases e
  case slice t x lo hi mx =>
    simp only [sliceA] at e ⊢
    split at e
    · rename_i s hd hx
      split at e
      · rename_i h1 h2
        cases e
        exact ⟨rfl, fun _ _ => by simp only [h1, h2]⟩
      · cases e
    · rename_i el l c hd hx
      split at e
      · rename_i hz
        simp only [if_pos hz]
        split at e
        · rename_i h1 h2
          cases e
          exact ⟨rfl, fun _ _ => by simp only [h1, h2]⟩
        · cases e
      · cases e
    · rename_i el a l c hd hx
      split at e
      · rename_i h1 h2 hB hs
        have hA' : ∀ A2 : AW, (∀ i B, A.get i = some B → A2.get i = some B) → A2.get a.block = _ := fun A2 hA => hA _ _ hB
        split at e
        · cases e
          exact ⟨rfl, fun A2 hA => by simp only [h1, h2, hA' A2 hA, hs]⟩
        · split at e
          · rename_i hz
            cases e
            exact ⟨rfl, fun A2 hA => by simp only [h1, h2, hA' A2 hA, hs, if_pos hz]⟩
          · cases e
        · split at e
          · cases e
          · rename_i hz
            rename_i lq hq mq _ _ _ _ _
            cases hml : Nat.beq mq lq with
            | true =>
              rw [hml] at e
              cases mx with
              | some y =>
                simp only [Option.map_some] at e
                cases e
                simp at hnx
              | none =>
                simp only [Option.map_none] at e
                cases e
                exact ⟨rfl, fun A2 hA => by simp only [Option.map_none] at h1 ⊢; simp only [h1, h2, hA' A2 hA, hs, if_neg hz, hml]⟩
            | false =>
              rw [hml] at e
              cases mx with
              | some y =>
                simp only [Option.map_some] at e
                cases e
                exact ⟨rfl, fun A2 hA => by simp only [Option.map_some] at h1 ⊢; simp only [h1, h2, hA' A2 hA, hs, if_neg hz, hml]⟩
              | none =>
                simp only [Option.map_none] at e
                cases e
                exact ⟨rfl, fun A2 hA => by simp only [Option.map_none] at h1 ⊢; simp only [h1, h2, hA' A2 hA, hs, if_neg hz, hml]⟩
      · cases e
    · rename_i n el a hd hx
      split at e
      · rename_i h1 h2 hB hs
        cases e
        exact ⟨rfl, fun A2 hA => by simp only [h1, h2, hA _ _ hB, hs]⟩
      · cases e
    · cases e
  case call c =>
    obtain ⟨callee, args, argTypes⟩ := c
    cases callee with
    | value f => cases hk
    | invoke r m => cases hk
    | builtin b =>
      cases b <;> simp only at hk e ⊢ <;> try (cases hk; done)
      case len =>
        unfold lenA at e ⊢
        split at e
        · rename_i t x ht hx
          split at e
          · cases e; rename_i hd; exact ⟨rfl, fun _ _ => by simp only [ht, hd]⟩
          · cases e; rename_i hd; exact ⟨rfl, fun _ _ => by simp only [ht, hd]⟩
          · cases e; rename_i hd; exact ⟨rfl, fun _ _ => by simp only [ht, hd]⟩
          · cases e; rename_i hd; exact ⟨rfl, fun _ _ => by simp only [ht, hd]⟩
          · rename_i hd
            split at e
            · rename_i es hB
              cases e
              exact ⟨rfl, fun A2 hA => by simp only [ht, hd, hA _ _ hB]⟩
            · cases e
          · cases e
        · cases e
      case min =>
        split at e
        · rename_i hp
          split at e
          · rename_i u hu
            split at e
            · rename_i hpu
              cases e; exact ⟨rfl, fun _ _ => by simp only [if_pos hp, hu, if_pos hpu]⟩
            · cases e
          · cases e
        · cases e
      case max =>
        split at e
        · rename_i hp
          split at e
          · rename_i u hu
            split at e
            · rename_i hpu
              cases e; exact ⟨rfl, fun _ _ => by simp only [if_pos hp, hu, if_pos hpu]⟩
            · cases e
          · cases e
        · cases e
def MK (mk : Nat → Value) : Prop := (∀ n, mk n = .pointer (some ⟨n, 0, none⟩)) ∨ ∃ l k, ∀ n, mk n = .slice (some ⟨n, 0, none⟩) l k
def SN (P : Program) (ρ : Ren) (s s' : Sem Value) : Prop := ∀ (A : AW) (v : Value) (A1 : AW), runA P s A = some (v, A1) →
 ∃ (c c' : Array Value) (elem : TypeId) (mk : Nat → Value), A1 = A.row c.toList .exact ∧ v = mk A.next ∧ AR ρ c c' ∧ (∀ w : World, s'.run P w = .ok (mk w.heap.size) (w.alloc (.cells c' elem (0, 0)))) ∧ MK mk
theorem sn_vain {P : Program} {ρ : Ren} {s s' : Sem Value} (h : ∀ A, runA P s A = none) : SN P ρ s s' := fun A v A1 e => by rw [h] at e; cases e
theorem sn_pu {P : Program} {ρ : Ren} {α : Type} {s : Sem α} (h : Pu P s) {f f' : α → Sem Value} (k : ∀ x, SN P ρ (f x) (f' x)) : SN P ρ (s >>= f) (s >>= f') := by
 intro A v A1 e
 change runA P (s.bind f) A = _ at e
 rw [runA_bind] at e
 rcases h with ⟨x, h1, h2⟩ | h
 ·rw [h2] at e
  obtain ⟨c, c', elem, mk, k1, k2, k3, k4, k5⟩ := k x A v A1 e
  refine ⟨c, c', elem, mk, k1, k2, k3, fun w => ?_, k5⟩
  change (s.bind f').run P w = _
  rw [Sem.run_bind' P s f' w, h1]
  exact k4 w
 ·rw [h] at e; cases e
theorem sn_ptr {P : Program} {ρ : Ren} (elem : TypeId) {c c' : Array Value} (h : AR ρ c c') : SN P ρ (do let a ← newRow elem c; pure (.pointer (some a))) (do let a ← newRow elem c'; pure (.pointer (some a))) := by
 intro A v A1 e
 have e : some ((Value.pointer (some ⟨A.next, 0, none⟩)), A.row c.toList .exact) = some (v, A1) := e
 cases e
 exact ⟨c, c', elem, fun n => .pointer (some ⟨n, 0, none⟩), rfl, rfl, h, fun w => rfl, .inl fun _ => rfl⟩
theorem sn_sl {P : Program} {ρ : Ren} (elem : TypeId) {c c' : Array Value} (h : AR ρ c c') (l k : Nat) : SN P ρ (do let a ← newRow elem c; pure (.slice (some a) l k)) (do let a ← newRow elem c'; pure (.slice (some a) l k)) := by
 intro A v A1 e
 have e : some ((Value.slice (some ⟨A.next, 0, none⟩) l k), A.row c.toList .exact) = some (v, A1) := e
 cases e
 exact ⟨c, c', elem, fun n => .slice (some ⟨n, 0, none⟩) l k, rfl, rfl, h, fun w => rfl, .inr ⟨l, k, fun _ => rfl⟩⟩
theorem sn_zero {P : Program} (G : Good P) {ρ : Ren} (t : TypeId) (ht : (P.types[t]?).isSome = true) {f f' : Value → Sem Value} (k : ∀ z, plainV 20 z = true → SN P ρ (f z) (f' z)) : SN P ρ (zeroValue t >>= f) (zeroValue t >>= f') := by
 cases hi : P.info? t with
 | none =>
  refine sn_vain fun A => runA_first_none (fun A => ?_) A
  change runA P ((match P.info? t with | some i => Pure.pure i | none => stuck "no such type").bind _) A = none
  rw [hi]
  rfl
 | some i =>
  cases hz : i.zero with
  | none =>
   refine sn_vain fun A => runA_first_none (fun A => ?_) A
   change runA P ((match P.info? t with | some i => Pure.pure i | none => stuck "no such type").bind _) A = none
   rw [hi]
   change runA P (match i.zero with | some v => pure v | none => unsupported _) A = none
   rw [hz]
   rfl
  | some z =>
   have hp := G.zeros t i z (by rw [← info_own ht]; exact hi) hz
   have hb : (P.info? t).bind (·.zero) = some z := by rw [hi]; exact hz
   intro A v A1 e
   change runA P ((zeroValue t).bind f) A = _ at e
   have hA : runA P (zeroValue t) A = some (z, A) := by
    change runA P ((match P.info? t with | some i => Pure.pure i | none => stuck "no such type").bind _) A = _
    rw [hi]
    change runA P (match i.zero with | some v => pure v | none => unsupported _) A = _
    rw [hz]
    rfl
   rw [runA_bind, hA] at e
   obtain ⟨c, c', elem, mk, k1, k2, k3, k4, k5⟩ := k z hp A v A1 e
   refine ⟨c, c', elem, mk, k1, k2, k3, fun w => ?_, k5⟩
   change ((zeroValue t).bind f').run P w = _
   rw [Sem.run_bind' P (zeroValue t) f' w, zero_run (P := P) hb w]
   exact k4 w
theorem sn_asInt {P : Program} {ρ : Ren} {v v' : Value} (h : VR ρ v v') {f f' : Int → Sem Value} (k : ∀ x, SN P ρ (f x) (f' x)) : SN P ρ (asInt v >>= f) (asInt v' >>= f') := by
 cases h with
 | int kk n => exact fun A v A1 e => k n A v A1 e
 | _ => exact sn_vain fun _ => rfl
theorem sn_und {P : Program} {ρ : Ren} (t : TypeId) {f f' : TypeDesc → Sem Value} (k : ∀ d, P.underlying t = some d → SN P ρ (f d) (f' d)) : SN P ρ (underlying t >>= f) (underlying t >>= f') := by
 cases hd : P.underlying t with
 | none =>
  refine sn_vain fun A => runA_first_none (fun A => ?_) A
  change runA P (match P.underlying t with | some d => pure d | none => stuck "no such type" : Sem TypeDesc) A = none
  rw [hd]
  rfl
 | some d =>
  intro A v A1 e
  change runA P ((underlying t).bind f) A = _ at e
  have h1 : runA P (underlying t) A = some (d, A) := by
   change runA P (match P.underlying t with | some d => pure d | none => stuck "no such type" : Sem TypeDesc) A = _
   rw [hd]
   rfl
  rw [runA_bind, h1] at e
  obtain ⟨c, c', elem, mk, k1, k2, k3, k4, k5⟩ := k d hd A v A1 e
  refine ⟨c, c', elem, mk, k1, k2, k3, fun w => ?_, k5⟩
  change ((underlying t).bind f').run P w = _
  rw [Sem.run_bind' P (underlying t) f' w, run_und hd]
  exact k4 w
theorem n_alloc {P : Program} (G : Good P) {ρ : Ren} (el : TypeId) (ht : (P.types[el]?).isSome = true) : SN P ρ (Instr.alloc el true (.tuple #[])) (Instr.alloc el true (.tuple #[])) :=
 sn_zero G el ht fun z hz => sn_ptr el (VR.plain 20 z hz).cells
theorem n_box {P : Program} {ρ : Ren} (el : TypeId) {v v' : Value} (h : VR ρ v v') : SN P ρ (Instr.box el v) (Instr.box el v') := sn_ptr el h.cells
theorem n_buildSlice {P : Program} (G : Good P) {ρ : Ren} (t : TypeId) (hte : ∀ el, P.underlying t = some (.slice el) → (P.types[el]?).isSome = true) (len : Nat) {ps ps' : Array (Nat × Value)} (h : PsR ρ ps.toList ps'.toList) : SN P ρ (Instr.buildSlice t len ps) (Instr.buildSlice t len ps') := by
 refine sn_und t fun d hdd => ?_
 cases d <;> first | exact sn_vain fun _ => rfl | skip
 rename_i elem
 refine sn_pu (pu_sizeOf elem) fun size => ?_
 by_cases hl : len * size > 2 ^ 24
 ·simp only [if_pos hl]
  exact sn_vain fun _ => rfl
 ·simp only [if_neg hl]
  have fin : ∀ (z : Array Value), AR ρ z z → SN P ρ
    (match Instr.fill (fun i => some (i * size, size)) ((Array.range (len * size)).map (z[· % z.size]!)) ps.toList with | some cells => (do pure (.slice (some (← newRow elem cells)) len len) : Sem Value) | _ => stuck "buildSlice: a part of the wrong size")
    (match Instr.fill (fun i => some (i * size, size)) ((Array.range (len * size)).map (z[· % z.size]!)) ps'.toList with | some cells => (do pure (.slice (some (← newRow elem cells)) len len) : Sem Value) | _ => stuck "buildSlice: a part of the wrong size") := by
   intro z hz
   cases hf : Instr.fill (fun i => some (i * size, size)) ((Array.range (len * size)).map (z[· % z.size]!)) ps.toList with
   | none => exact sn_vain fun _ => rfl
   | some r =>
    obtain ⟨r', h4, h5⟩ := fill_same _ _ _ _ _ h (zeros_same hz _) r hf
    rw [h4]
    exact sn_sl elem h5 _ _
  by_cases hn : len * size = 0
  ·simp only [if_pos hn]
   exact fin #[] .nil
  ·simp only [if_neg hn]
   exact sn_zero G elem (hte elem hdd) fun z hz => fin _ (VR.plain 20 z hz).cells
theorem n_makeSlice {P : Program} (G : Good P) {ρ : Ren} (t : TypeId) (hte : ∀ el, P.underlying t = some (.slice el) → (P.types[el]?).isSome = true) {l l' c c' : Value} (hl : VR ρ l l') (hc : VR ρ c c') : SN P ρ (Instr.makeSlice t l c) (Instr.makeSlice t l' c') := by
 refine sn_und t fun d hdd => ?_
 cases d <;> first | exact sn_vain fun _ => rfl | skip
 rename_i elem
 refine sn_asInt hl fun n => ?_
 refine sn_asInt hc fun m => ?_
 refine sn_pu (pu_typeInfo elem) fun i => ?_
 dsimp only
 split
 ·split
  ·exact sn_vain fun A => runA_first_none (fun A => runA_panic _ A) A
  ·split
   ·exact sn_vain fun A => runA_first_none (fun A => runA_panic _ A) A
   ·exact sn_vain fun A => runA_first_none (s := choose _) (fun A => rfl) A
 ·have hroom : Pu P (askRoom ((IntKind.i64.wrap m).toNat * i.bytes)) := by
   unfold askRoom
   split
   ·exact .inl ⟨(), fun w => rfl, fun A => rfl⟩
   ·exact pu_ret _
  refine sn_pu hroom fun _ => ?_
  refine sn_pu (pu_sizeOf elem) fun size => ?_
  split
  ·exact sn_sl elem (zeros_same (ρ := ρ) (z := #[]) .nil _) _ _
  ·exact sn_zero G elem (hte elem hdd) fun z hz => sn_sl elem (zeros_same (VR.plain 20 z hz).cells _) _ _
def NewSpec (P : Program) (o : Oper) (t : TV) (id : Nat) (B : ABlk) (v : Value) : Prop :=
 ∀ (ρ : Ren) (a : Act) (w : World), (∀ x ∈ o.op.operands, VR ρ (evL t x) (a.eval x)) →
  ∃ o' v', (execOp a.eval o).run P w = .ok (.value v') (w.alloc o') ∧ BR ρ ⟨w.heap.size, 0, .exact, 0⟩ B (some o') ∧ ∀ ρ' : Ren, ρ' id = some ⟨w.heap.size, 0, .exact, 0⟩ → VR ρ' v v'
theorem newSpec_of {P : Program} {o : Oper} {t : TV} {A A1 : AW} {v : Value} {s : Sem Value} {S : (Operand → Value) → Sem Value} (hS : ∀ f, execOp f o = (do pure (.value (← S f)) : Sem Next)) (hs : S (evL t) = s)
  (e : runA P s A = some (v, A1)) (h : ∀ (ρ : Ren) (a : Act), (∀ x ∈ o.op.operands, VR ρ (evL t x) (a.eval x)) → SN P ρ s (S a.eval)) (hsome : ∃ (ρ : Ren) (a : Act), ∀ x ∈ o.op.operands, VR ρ (evL t x) (a.eval x)) :
  ∃ B, A1 = A.add B ∧ NewSpec P o t A.next B v := by
 obtain ⟨ρ0, a0, h0⟩ := hsome
 obtain ⟨c, c', elem, mk, k1, k2, k3, k4, k5⟩ := h ρ0 a0 h0 A v A1 e
 refine ⟨_, k1, fun ρ a w hv => ?_⟩
 obtain ⟨d, d', elem2, mk2, q1, q2, q3, q4, q5⟩ := h ρ a hv A v A1 e
 have hcd : ABlk.cells c.toList (c.toList.any isU32) .exact = ABlk.cells d.toList (d.toList.any isU32) .exact := by
  have h1 : A1.get A.next = some (ABlk.cells c.toList (c.toList.any isU32) .exact) := by rw [k1]; unfold AW.row; rw [AW.get_add, if_pos rfl]
  have h2 : A1.get A.next = some (ABlk.cells d.toList (d.toList.any isU32) .exact) := by rw [q1]; unfold AW.row; rw [AW.get_add, if_pos rfl]
  rw [h1] at h2
  exact Option.some.inj h2
 refine ⟨.cells d' elem2 (0, 0), mk2 w.heap.size, ?_, ?_, fun ρ' hρ => ?_⟩
 ·rw [hS, Sem.run_bind, q4]
  rfl
 ·rw [hcd]
  refine ⟨rfl, .inr ⟨d', elem2, (0, 0), rfl, fun j u hj => ?_, fun hro => ⟨?_, .inl (Nat.le_refl _), (fun e he => by cases he), ?_⟩⟩⟩
  ·obtain ⟨u', z1, z2⟩ := LR.get? q3 hj
   exact ⟨u', by simpa using z1, z2⟩
  ·have := q3.size
   simp [this]
  ·have := noU_of q3 hro
   simpa using this
 ·rw [q2]
  rcases q5 with q5 | ⟨l, k, q5⟩
  ·rw [q5, q5]
   exact .ptr (k := 0) (L := ⟨w.heap.size, 0, .exact, 0⟩) hρ
  ·rw [q5, q5]
   exact .sexact (k := 0) (L := ⟨w.heap.size, 0, .exact, 0⟩) l k hρ rfl
def bsS (el : TypeId) (n : Nat) (ps : Array (Nat × Operand)) (f : Operand → Value) : Sem Value := Instr.buildSlice el n (ps.map fun (i, x) => (i, f x))
theorem bsS_exec (el : TypeId) (n : Nat) (ps : Array (Nat × Operand)) (o : Oper) (ho : o.op = .buildSlice el n ps) (f : Operand → Value) : execOp f o = (do pure (.value (← bsS el n ps f)) : Sem Next) := by
 unfold execOp bsS
 rw [ho]
theorem exN_ok {P : Program} (G : Good P) {F : CallF} {t : TV} {o : Oper} (hk : newOp o.op = true) {A A1 : AW} {v : Value} (e : exA P F t o A = some (v, A1)) (hsome : ∃ (ρ : Ren) (a : Act), ∀ x ∈ o.op.operands, VR ρ (evL t x) (a.eval x)) :
  ∃ B, A1 = A.add B ∧ NewSpec P o t A.next B v := by
 obtain ⟨dst, op, ty, pos, after, guard⟩ := o
 unfold exA at e
 split at e
 ·cases e
 rename_i hops
 have htyp : typOk P op = true := (both_of hops).2
 cases op <;> simp only [newOp] at hk <;> try (cases hk; done)
 case alloc el => exact newSpec_of (S := fun f => Instr.alloc el true (.tuple #[])) (fun f => rfl) rfl (runA_value e) (fun ρ a hv => n_alloc G el htyp) hsome
 case box el x => exact newSpec_of (S := fun f => Instr.box el (f x)) (fun f => rfl) rfl (runA_value e) (fun ρ a hv => n_box el (hv x (by simp [Op.operands]))) hsome
 case buildSlice el n ps =>
  have hx := bsS_exec el n ps { dst := dst, op := .buildSlice el n ps, type := ty, pos := pos, after := after, guard := guard } rfl
  dsimp only at e
  rw [hx] at e
  have e2 := runA_value e
  refine newSpec_of (S := bsS el n ps) hx rfl e2 (fun ρ a hv => ?_) hsome
  unfold bsS
  refine n_buildSlice G el (fun el2 hd => by simpa [typOk, hd] using htyp) n ?_
  rw [Array.toList_map, Array.toList_map]
  exact PsR.of _ fun p hp => hv p.2 (by simp only [Op.operands, List.mem_toArray, List.mem_map]; exact ⟨p, hp, rfl⟩)
 case makeSlice el l c => exact newSpec_of (S := fun f => Instr.makeSlice el (f l) (f c)) (fun f => rfl) rfl (runA_value e) (fun ρ a hv => n_makeSlice G el (fun el2 hd => by simpa [typOk, hd] using htyp) (hv l (by simp [Op.operands])) (hv c (by simp [Op.operands]))) hsome
 case makeMap el r =>
  cases r with
  | some r => simp at hk
  | none =>
   have e := runA_value (s := Instr.makeMap el none) e
   have e' : some ((Value.map (some A.next)), A.add (.map [])) = some (v, A1) := e
   cases e'
   refine ⟨.map [], rfl, fun ρ a w hv => ⟨.map #[] 0, .map (some w.heap.size), rfl, ⟨#[], 0, rfl, [], .nil, .nil⟩, fun ρ' hρ => .map (L := ⟨w.heap.size, 0, .exact, 0⟩) hρ⟩⟩
theorem exA_congr {P : Program} {F : CallF} {t t2 : TV} {o : Oper} (h : ∀ x ∈ o.op.operands, evL t x = evL t2 x) (hk : (readOp o.op || newOp o.op) = true) (A : AW) : exA P F t o A = exA P F t2 o A := by
 obtain ⟨dst, op, ty, pos, after, guard⟩ := o
 unfold exA
 split
 ·rfl
 rename_i hops
 have hx := execOp_congr (ρ := evL t) (ρ' := evL t2) { dst := dst, op := op, type := ty, pos := pos, after := after, guard := guard } (by intro cs b hc; simp only at hc; subst hc; simp [readOp, newOp] at hk) h
 cases op <;> simp only [readOp, newOp, Bool.or_false, Bool.false_or] at hk <;> try (cases hk; done)
 all_goals simp only [Op.operands] at h
 all_goals try dsimp only
 case move x => rw [h x (by simp)]
 case pick c x y => rw [h c (by simp), h x (by simp), h y (by simp)]
 case nilCheck x => rw [h x (by simp)]
 case binOp op tq x y yt => rw [h x (by simp), h y (by simp)]
 case lookup tq m k ok => rw [h m (by simp), h k (by simp)]
 case makeFunc f x y =>
  rw [Array.map_congr_left (f := evL t) (g := evL t2) fun z hz => h z (by simp [hz]), Array.map_congr_left (xs := y) (f := evL t) (g := evL t2) fun z hz => h z (by simp [hz])]
 case slice tq x lo hi mx =>
  have ho : ∀ (q : Option Operand), (∀ y, q = some y → evL t y = evL t2 y) → q.map (evL t) = q.map (evL t2) := by
   intro q hq
   cases q with
   | none => rfl
   | some y => simp [hq y rfl]
  rw [h x (by simp), ho lo fun y hy => h y (by simp [hy]), ho hi fun y hy => h y (by simp [hy]), ho mx fun y hy => h y (by simp [hy])]
 case call c =>
  obtain ⟨callee, args, argTypes⟩ := c
  have ha : args.map (evL t) = args.map (evL t2) := Array.map_congr_left fun z hz => h z (by simp [Call.operands, hz])
  cases callee with
  | value f => cases hk
  | invoke r m => cases hk
  | builtin b => cases b <;> simp only at hk ⊢ <;> first | (cases hk; done) | rw [ha]
 case makeMap el r =>
  cases r with
  | none => rw [hx]
  | some r => simp at hk
 all_goals rw [hx]
theorem Rel.define {ρ : Ren} {A : AW} {w : World} (h : Rel ρ A w) {id : Nat} {B : ABlk} (hid : ρ id = none) (hlt : id < A.next) {o' : Obj}
  (hB : A.get id = none ∨ (A.get id = some B ∧ BR ρ ⟨w.heap.size, 0, .exact, 0⟩ B (some o'))) :
  Rel (ρ.up id ⟨w.heap.size, 0, .exact, 0⟩) A (w.alloc o') ∧ (∀ ρ0 A0 w0, Rel ρ0 A0 w0 → Fr ρ0 A0 w0 ρ A w → A0.next ≤ id → Fr ρ0 A0 w0 (ρ.up id ⟨w.heap.size, 0, .exact, 0⟩) A (w.alloc o')) ∧ Ext ρ (ρ.up id ⟨w.heap.size, 0, .exact, 0⟩) := by
 have hheap : (w.alloc o').heap = w.heap.push o' := rfl
 have hx : Ext ρ (ρ.up id ⟨w.heap.size, 0, .exact, 0⟩) := fun i M e => by
  unfold Ren.up
  rw [if_neg (fun e2 => by rw [e2, hid] at e; cases e)]
  exact e
 have hnew : ∀ j M, (ρ.up id ⟨w.heap.size, 0, .exact, 0⟩) j = some M → j = id ∧ M = ⟨w.heap.size, 0, .exact, 0⟩ ∨ j ≠ id ∧ ρ j = some M := fun j M e => by
  unfold Ren.up at e
  split at e
  ·rename_i hj; cases e; exact .inl ⟨hj, rfl⟩
  ·rename_i hj; exact .inr ⟨hj, e⟩
 have hold : ∀ k, k < w.heap.size → (w.alloc o').heap[k]? = w.heap[k]? := fun k hk => by rw [hheap]; simp [Array.getElem?_push, Nat.ne_of_lt hk]
 refine ⟨⟨fun j M e => ?_, h.fresh, fun j M C h3 h4 => ?_, fun j l M N C D hjl h3 h4 h5 h6 hc hd => ?_⟩, fun ρ0 A0 w0 hr0 f h0 => ?_, hx⟩
 ·rcases hnew j M e with ⟨rfl, _⟩ | ⟨_, e⟩
  ·exact hlt
  ·exact h.dom j M e
 ·rcases hnew j M h3 with ⟨rfl, rfl⟩ | ⟨hj, h3'⟩
  ·rcases hB with hB | ⟨hB, hb⟩
   ·rw [hB] at h4; cases h4
   ·rw [hB] at h4
    cases h4
    rw [hheap]
    simp only [Array.getElem?_push_size]
    exact hb.mono hx
  ·cases hs : solid C with
   | true => rw [hold _ (h.lt h3' h4 hs)]; exact (h.blk j M C h3' h4).mono hx
   | false => exact ((h.blk j M C h3' h4).mono hx).hollow hs
 ·rcases hnew j M h3 with ⟨a1, a2⟩ | ⟨hj, h3'⟩
  ·rcases hnew l N h4 with ⟨a4, _⟩ | ⟨hl, h4'⟩
   ·exact absurd (a1.trans a4.symm) hjl
   ·have := h.lt h4' h6 hd
    rw [a2]
    simp only
    omega
  ·have h7 := h.lt h3' h5 (mut_solid hc)
   rcases hnew l N h4 with ⟨a1, a2⟩ | ⟨hl, h4'⟩
   ·rw [a2]
    simp only
    omega
   ·exact h.sep j l M N C D hjl h3' h4' h5 h6 hc hd
 ·refine ⟨fun j hj => ?_, f.next, f.os, f.tape, f.output, Nat.le_trans f.size (by rw [hheap]; simp), fun k hk1 hl => ?_⟩
  ·rw [← f.ren j hj]
   unfold Ren.up
   rw [if_neg (by omega)]
  ·obtain ⟨z1, z2⟩ := f.keep k hk1 hl
   refine ⟨(hold k (Nat.lt_of_lt_of_le hk1 f.size)).trans z1, ?_⟩
   rintro ⟨j, M, C, h3, h4, h5, h6⟩
   rcases hnew j M h3 with ⟨rfl, rfl⟩ | ⟨hj, h3'⟩
   ·simp only at h6
    have := Nat.lt_of_lt_of_le hk1 f.size
    omega
   ·exact z2 ⟨j, M, C, h3', h4, h5, h6⟩
def SA (P : Program) (s : Sem Value) : Prop := ∀ (A : AW) (v : Value) (A1 : AW), runA P s A = some (v, A1) → ∃ B, A1 = A.add B
theorem sa_vain {P : Program} {s : Sem Value} (h : ∀ A, runA P s A = none) : SA P s := fun A v A1 e => by rw [h] at e; cases e
theorem sa_pu {P : Program} {α : Type} {s : Sem α} (h : Pu P s) {f : α → Sem Value} (k : ∀ x, SA P (f x)) : SA P (s >>= f) := by
 intro A v A1 e
 change runA P (s.bind f) A = _ at e
 rw [runA_bind] at e
 rcases h with ⟨x, h1, h2⟩ | h
 ·rw [h2] at e
  exact k x A v A1 e
 ·rw [h] at e; cases e
theorem sa_row {P : Program} (elem : TypeId) (c : Array Value) (f : Addr → Value) : SA P (do let a ← newRow elem c; pure (f a)) := by
 intro A v A1 e
 have e : some (f ⟨A.next, 0, none⟩, A.row c.toList .exact) = some (v, A1) := e
 cases e
 exact ⟨_, rfl⟩
theorem sa_alloc {P : Program} (el : TypeId) : SA P (Instr.alloc el true (.tuple #[])) := sa_pu (pu_zero el) fun z => sa_row el _ _
theorem sa_box {P : Program} (el : TypeId) (v : Value) : SA P (Instr.box el v) := sa_row el _ _
theorem sa_buildSlice {P : Program} (t : TypeId) (len : Nat) (ps : Array (Nat × Value)) : SA P (Instr.buildSlice t len ps) := by
 refine sa_pu (pu_underlying t) fun d => ?_
 cases d <;> first | exact sa_vain fun _ => rfl | skip
 rename_i elem
 refine sa_pu (pu_sizeOf elem) fun size => ?_
 by_cases hl : len * size > 2 ^ 24
 ·simp only [if_pos hl]
  exact sa_vain fun _ => rfl
 ·simp only [if_neg hl]
  have fin : ∀ (z : Array Value), SA P
    (match Instr.fill (fun i => some (i * size, size)) ((Array.range (len * size)).map (z[· % z.size]!)) ps.toList with | some cells => (do pure (.slice (some (← newRow elem cells)) len len) : Sem Value) | _ => stuck "buildSlice: a part of the wrong size") := by
   intro z
   cases hf : Instr.fill (fun i => some (i * size, size)) ((Array.range (len * size)).map (z[· % z.size]!)) ps.toList with
   | none => exact sa_vain fun _ => rfl
   | some r => exact sa_row elem _ _
  by_cases hn : len * size = 0
  ·simp only [if_pos hn]
   exact fin #[]
  ·simp only [if_neg hn]
   exact sa_pu (pu_zero elem) fun z => fin _
theorem pu_asInt {P : Program} (v : Value) : Pu P (asInt v) := pu_bind (pu_asIntOf v) fun _ => pu_ret _
theorem sa_makeSlice {P : Program} (t : TypeId) (l c : Value) : SA P (Instr.makeSlice t l c) := by
 refine sa_pu (pu_underlying t) fun d => ?_
 cases d <;> first | exact sa_vain fun _ => rfl | skip
 rename_i elem
 refine sa_pu (pu_asInt l) fun n => ?_
 refine sa_pu (pu_asInt c) fun m => ?_
 refine sa_pu (pu_typeInfo elem) fun i => ?_
 dsimp only
 split
 ·split
  ·exact sa_vain fun A => runA_first_none (fun A => runA_panic _ A) A
  ·split
   ·exact sa_vain fun A => runA_first_none (fun A => runA_panic _ A) A
   ·exact sa_vain fun A => runA_first_none (s := choose _) (fun A => rfl) A
 ·have hroom : Pu P (askRoom ((IntKind.i64.wrap m).toNat * i.bytes)) := by
   unfold askRoom
   split
   ·exact .inl ⟨(), fun w => rfl, fun A => rfl⟩
   ·exact pu_ret _
  refine sa_pu hroom fun _ => ?_
  refine sa_pu (pu_sizeOf elem) fun size => ?_
  split
  ·exact sa_row elem _ _
  ·exact sa_pu (pu_zero elem) fun z => sa_row elem _ _
theorem exN_add {P : Program} {F : CallF} {t : TV} {o : Oper} (hk : newOp o.op = true) {A A1 : AW} {v : Value} (e : exA P F t o A = some (v, A1)) : ∃ B, A1 = A.add B := by
 obtain ⟨dst, op, ty, pos, after, guard⟩ := o
 unfold exA at e
 split at e
 ·cases e
 rename_i hops
 cases op <;> simp only [newOp] at hk <;> try (cases hk; done)
 case alloc el => exact sa_alloc el A v A1 (runA_value e)
 case box el x => exact sa_box el _ A v A1 (runA_value e)
 case buildSlice el n ps =>
  have hx := bsS_exec el n ps { dst := dst, op := .buildSlice el n ps, type := ty, pos := pos, after := after, guard := guard } rfl
  dsimp only at e
  rw [hx] at e
  exact sa_buildSlice el n _ A v A1 (runA_value e)
 case makeSlice el l c => exact sa_makeSlice el _ _ A v A1 (runA_value e)
 case makeMap el r =>
  cases r with
  | some r => simp at hk
  | none =>
   have e := runA_value (s := Instr.makeMap el none) e
   have e' : some ((Value.map (some A.next)), A.add (.map [])) = some (v, A1) := e
   cases e'
   exact ⟨_, rfl⟩
theorem exM_map {P : Program} {F : CallF} {t : TV} {o : Oper} (hk : isMake o.op = true) {A A1 : AW} {v : Value} (e : exA P F t o A = some (v, A1)) : A1 = A.add (.map []) ∧ v = .map (some A.next) := by
 obtain ⟨dst, op, ty, pos, after, guard⟩ := o
 unfold exA at e
 split at e
 ·cases e
 rename_i hops
 cases op <;> simp only [isMake] at hk <;> try (cases hk; done)
 rename_i el r
 cases r with
 | some r => simp at hk
 | none =>
  have e := runA_value (s := Instr.makeMap el none) e
  have e' : some ((Value.map (some A.next)), A.add (.map [])) = some (v, A1) := e
  cases e'
  exact ⟨rfl, rfl⟩
theorem exA_opnds {P : Program} {F : CallF} {t : TV} {o : Oper} {A A1 : AW} {v : Value} (e : exA P F t o A = some (v, A1)) : ∀ x ∈ o.op.operands, opndOk x = true := by
 unfold exA at e
 split at e
 ·cases e
 ·rename_i h
  have h2 : o.op.operands.all opndOk = true ∧ typOk P o.op = true := both_of h
  exact Array.all_eq_true'.1 h2.1
theorem exR_pure {P : Program} {F : CallF} {t : TV} {o : Oper} (hk : readOp o.op = true) (hm : memOp o.op = false) {A A1 : AW} {v : Value} (e : exA P F t o A = some (v, A1)) : ∀ A2 : AW, exA P F t o A2 = some (v, A2) := by
 obtain ⟨dst, op, ty, pos, after, guard⟩ := o
 unfold exA at e ⊢
 split at e
 ·cases e
 rename_i hops
 simp only [if_neg hops]
 cases op <;> simp only [readOp] at hk <;> try (cases hk; done)
 all_goals simp only [memOp] at hm <;> try (cases hm; done)
 case move x => cases e; exact fun _ => rfl
 case pick c x y =>
  simp only at e ⊢
  split at e
  ·cases e; exact fun _ => rfl
  ·cases e; exact fun _ => rfl
  ·cases e
 case build t ps => exact (asVal_pu (pu_build _ _) e).2
 case nilCheck x =>
  simp only at e ⊢
  split at e
  ·rename_i u hu
   cases e
   exact fun _ => rfl
  ·cases e
 case unOp op t x => exact (asVal_pu (pu_unary _ _) e).2
 case makeFunc f x y => cases e; exact fun _ => rfl
 case fieldAddr t x f => exact (asVal_pu (pu_fieldAt _ _ _) e).2
 case field t x f => exact (asVal_pu (pu_field _ _ _) e).2
 case indexAddr t x i => exact (asVal_pu (pu_indexAt _ _ _) e).2
 case index t x i => exact (asVal_pu (pu_index _ _ _) e).2
 case extract x i => exact (asVal_pu (pu_extract _ _) e).2
def NewAt (P : Program) (F : CallF) (t : TV) (o : Oper) (id : Nat) (B : ABlk) (v : Value) : Prop := ∃ A : AW, A.next = id ∧ exA P F t o A = some (v, A.add B)
theorem NewAt.spec {P : Program} (G : Good P) {F : CallF} {t : TV} {o : Oper} {id : Nat} {B : ABlk} {v : Value} (h : NewAt P F t o id B v) (hk : newOp o.op = true) (hsome : ∃ (ρ : Ren) (a : Act), ∀ x ∈ o.op.operands, VR ρ (evL t x) (a.eval x)) : NewSpec P o t id B v := by
 obtain ⟨A, rfl, he⟩ := h
 obtain ⟨B', h1, h2⟩ := exN_ok G hk he hsome
 have h3 : (A.add B).get A.next = some B := by rw [AW.get_add, if_pos rfl]
 rw [h1, AW.get_add, if_pos rfl] at h3
 cases h3
 exact h2
theorem isMake_new {o : Op} (h : isMake o = true) : newOp o = true := by
 cases o <;> simp only [isMake] at h <;> try (cases h; done)
 rename_i t r
 cases r <;> simp_all [newOp]
def opT (o : Oper) : List Tmp := o.op.operands.toList.filterMap fun | .tmp t => some t | _ => none
def guardT (ops : Array Oper) (o : Oper) : List Tmp := match o.guard with
 | some (g, _) => ((ops[g]?).bind (·.dst)).toList
 | none => []
def readT (ops : Array Oper) (o : Oper) : List Tmp := opT o ++ guardT ops o
def kindFree (o : Oper) : Bool := readOp o.op || newOp o.op || isIns o.op
def anc (ops : Array Oper) (i : Nat) : Nat := (ancs ops).getD i 0
def clash (ops : Array Oper) (p o : Oper) : Bool :=
 (match p.dst with
 | some d => (readT ops o).contains d || decide (o.dst = some d)
 | none => false) ||
 (match o.dst with
 | some d => (readT ops p).contains d
 | none => false)
def stepOr (ops : Array Oper) (s : Nat) (e : Edge) : Nat := if Region.binds .any e then s ||| 2 ^ e.on ||| anc ops e.on else s
def drawOk (ops : Array Oper) : Bool := (List.range ops.size).all fun j => match ops[j]? with
 | none => true
 | some o =>
  (o.after.toList.all fun e => !(Region.binds .any e) || decide (e.on < j)) &&
  decide (anc ops j = o.after.toList.foldl (stepOr ops) 0) &&
  (match o.guard with
  | none => true
  | some (g, _) => decide (g < j) && (anc ops j).testBit g) &&
  (match kindFree o, o.dst with
  | true, some d => !((readT ops o).contains d)
  | _, _ => true) &&
  ((List.range j).all fun i => match ops[i]? with
  | none => true
  | some p =>
   (!(clash ops p o) || (anc ops j).testBit i) &&
   (match kindFree o, o.dst with
   | true, some d => decide (p.dst ≠ some d) && !((readT ops p).contains d)
   | _, _ => true))
structure DrawOk (ops : Array Oper) : Prop where
 back : ∀ (j : Nat) (o : Oper), ops[j]? = some o → ∀ e ∈ o.after, Region.binds .any e = true → e.on < j
 ancE : ∀ (j : Nat) (o : Oper), ops[j]? = some o → ∀ k, (anc ops j).testBit k = true ↔ ∃ e ∈ o.after, Region.binds .any e = true ∧ (e.on = k ∨ (anc ops e.on).testBit k = true)
 guard : ∀ (j : Nat) (o : Oper), ops[j]? = some o → ∀ g b, o.guard = some (g, b) → g < j ∧ (anc ops j).testBit g = true
 self : ∀ (j : Nat) (o : Oper), ops[j]? = some o → kindFree o = true → ∀ d, o.dst = some d → d ∉ readT ops o
 conf : ∀ (i j : Nat) (p o : Oper), i < j → ops[i]? = some p → ops[j]? = some o → clash ops p o = true → (anc ops j).testBit i = true
 free : ∀ (i j : Nat) (p o : Oper), i < j → ops[i]? = some p → ops[j]? = some o → kindFree o = true → ∀ d, o.dst = some d → p.dst ≠ some d ∧ d ∉ readT ops p
theorem fold_bits (ops : Array Oper) (k : Nat) : ∀ (l : List Edge) (s : Nat), (l.foldl (stepOr ops) s).testBit k = true ↔ s.testBit k = true ∨ ∃ e ∈ l, Region.binds .any e = true ∧ (e.on = k ∨ (anc ops e.on).testBit k = true)
 | [], s => by simp
 | e :: l, s => by
  rw [List.foldl_cons, fold_bits ops k l]
  unfold stepOr
  by_cases hb : Region.binds .any e = true
  ·rw [if_pos hb]
   simp only [Nat.testBit_or, Nat.testBit_two_pow, Bool.or_eq_true, decide_eq_true_eq, List.mem_cons]
   constructor
   ·rintro (((h | h) | h) | ⟨x, h1, h2⟩)
    ·exact .inl h
    ·exact .inr ⟨e, .inl rfl, hb, .inl h⟩
    ·exact .inr ⟨e, .inl rfl, hb, .inr h⟩
    ·exact .inr ⟨x, .inr h1, h2⟩
   ·rintro (h | ⟨x, rfl | h1, h2, h3⟩)
    ·exact .inl (.inl (.inl h))
    ·rcases h3 with h3 | h3
     ·exact .inl (.inl (.inr h3))
     ·exact .inl (.inr h3)
    ·exact .inr ⟨x, h1, h2, h3⟩
  ·rw [if_neg hb]
   simp only [List.mem_cons]
   constructor
   ·rintro (h | ⟨x, h1, h2⟩)
    ·exact .inl h
    ·exact .inr ⟨x, .inr h1, h2⟩
   ·rintro (h | ⟨x, rfl | h1, h2, h3⟩)
    ·exact .inl h
    ·exact absurd h2 hb
    ·exact .inr ⟨x, h1, h2, h3⟩
theorem drawOk_spec {ops : Array Oper} (h : drawOk ops = true) : DrawOk ops := by
 unfold drawOk at h
 rw [List.all_eq_true] at h
 have key : ∀ (j : Nat) (o : Oper), ops[j]? = some o → _ := fun j o ho => by
  have hj : j < ops.size := by
   rcases Nat.lt_or_ge j ops.size with h' | h'
   ·exact h'
   ·rw [Array.getElem?_eq_none h'] at ho; cases ho
  have := h j (by simpa using hj)
  rw [ho] at this
  simp only [Bool.and_eq_true, decide_eq_true_eq] at this
  exact this
 refine ⟨fun j o ho e he hb => ?_, fun j o ho k => ?_, fun j o ho g b hg => ?_, fun j o ho hf d hd => ?_, fun i j p o hij hp ho hc => ?_, fun i j p o hij hp ho hf d hd => ?_⟩
 ·have := (key j o ho).1.1.1.1
  rw [List.all_eq_true] at this
  have := this e (by simpa using he)
  rw [hb] at this
  simpa using this
 ·have := (key j o ho).1.1.1.2
  rw [this, fold_bits]
  simp
 ·have := (key j o ho).1.1.2
  rw [hg] at this
  simpa using this
 ·have := (key j o ho).1.2
  rw [hf, hd] at this
  simpa using this
 ·have := (key j o ho).2
  rw [List.all_eq_true] at this
  have := this i (by simpa using hij)
  rw [hp] at this
  simp only [Bool.and_eq_true, hc, Bool.not_true, Bool.false_or] at this
  exact this.1
 ·have := (key j o ho).2
  rw [List.all_eq_true] at this
  have := this i (by simpa using hij)
  rw [hp] at this
  simp only [Bool.and_eq_true] at this
  have := this.2
  rw [hf, hd] at this
  simp only [Bool.and_eq_true, decide_eq_true_eq] at this
  exact ⟨this.1, by simpa using this.2⟩
def Closed (ops : Array Oper) (D : Nat → Prop) : Prop := ∀ (j : Nat) (o : Oper), ops[j]? = some o → D j → ∀ e ∈ o.after, Region.binds .any e = true → D e.on
theorem anc_of_edges {ops : Array Oper} (h : DrawOk ops) {D : Nat → Prop} (hD : Closed ops D) : ∀ (j : Nat) (o : Oper), ops[j]? = some o → (∀ e ∈ o.after, Region.binds .any e = true → D e.on) → ∀ k, (anc ops j).testBit k = true → D k := by
 intro j
 induction j using Nat.strongRecOn with
 | _ j ih =>
  intro o ho he k hk
  obtain ⟨e, h1, h2, h3⟩ := (h.ancE j o ho k).1 hk
  rcases h3 with rfl | h3
  ·exact he e h1 h2
  ·have hlt := h.back j o ho e h1 h2
   cases hp : ops[e.on]? with
   | none =>
    exfalso
    have hj : j < ops.size := by
     rcases Nat.lt_or_ge j ops.size with h' | h'
     ·exact h'
     ·rw [Array.getElem?_eq_none h'] at ho; cases ho
    rw [Array.getElem?_eq_none_iff] at hp
    omega
   | some p => exact ih e.on hlt p hp (fun e' h4 h5 => hD e.on p hp (he e h1 h2) e' h4 h5) k h3
theorem clash_dst {ops : Array Oper} {p o : Oper} {d : Tmp} (hp : p.dst = some d) (ho : d ∈ readT ops o ∨ o.dst = some d) : clash ops p o = true := by
 unfold clash
 rw [hp]
 rcases ho with ho | ho
 ·simp [ho]
 ·simp [ho]
theorem clash_read {ops : Array Oper} {p o : Oper} {d : Tmp} (ho : o.dst = some d) (hp : d ∈ readT ops p) : clash ops p o = true := by
 unfold clash
 rw [ho]
 simp [hp]
theorem tv_get (t : TV) (k : Nat) : t.get? k = if k < t.length then some (t.getD k undef) else none := by
 unfold TV.getD TV.get? TV.length
 cases h : Nat.ble t.n k with
 | true =>
  have := Nat.le_of_ble_eq_true h
  simp only
  rw [if_neg (by omega)]
 | false =>
  have : ¬ t.n ≤ k := fun hc => by rw [Nat.ble_eq_true_of_le hc] at h; cases h
  rw [if_pos (by omega)]
  cases t.tr.get k <;> rfl
theorem tv_none (t : TV) {k : Nat} (h : t.length ≤ k) : t.getD k undef = undef := by
 have h1 := tv_get t k
 rw [if_neg (by omega)] at h1
 unfold TV.getD
 rw [h1]
theorem tv_set (t : TV) (d k : Nat) (v : Value) : (t.set d v).getD k undef = if d = k ∧ k < t.length then v else t.getD k undef := by
 by_cases hk : k < t.length
 ·unfold TV.getD TV.get? TV.set
  have hb : Nat.ble t.n k = false := by
   cases h : Nat.ble t.n k with
   | false => rfl
   | true => exact absurd (Nat.le_of_ble_eq_true h) (by unfold TV.length at hk; omega)
  simp only [hb]
  rw [T.get_set (d + 1) t.tr d (some v) k (Nat.lt_succ_self d)]
  by_cases hd : d = k
  ·subst hd
   rw [if_pos rfl, if_pos ⟨rfl, hk⟩]
  ·rw [if_neg (fun e => hd e.symm), if_neg (fun e => hd e.1)]
 ·rw [if_neg (fun e => hk e.2), tv_none t (Nat.le_of_not_lt hk), tv_none (t.set d v) (show t.length ≤ k from Nat.le_of_not_lt hk)]
theorem getD_put {t : TV} {d : Option Tmp} {v : Value} {k : Nat} : (putL t d v).getD k undef = if d = some k ∧ k < t.length then v else t.getD k undef := by
 unfold putL
 cases d with
 | none => simp
 | some d =>
  simp only [tv_set, Option.some.injEq]
theorem length_put {t : TV} {d : Option Tmp} {v : Value} : (putL t d v).length = t.length := by
 unfold putL
 cases d <;> rfl
def TR (ρ : Ren) (t : TV) (l : List Value) : Prop := t.length = l.length ∧ ∀ k, VR ρ (t.getD k undef) (l.getD k undef)
theorem TR.length {ρ : Ren} {t : TV} {l : List Value} (h : TR ρ t l) : t.length = l.length := h.1
theorem TR.mono {ρ ρ1 : Ren} (e : Ext ρ ρ1) {t : TV} {l : List Value} (h : TR ρ t l) : TR ρ1 t l := ⟨h.1, fun k => (h.2 k).mono e⟩
theorem TR.get {ρ : Ren} {t : TV} {a : Act} (h : TR ρ t a.tmps.toList) (k : Nat) : VR ρ (t.getD k undef) (a.tmps.getD k undef) := by
 have h1 := h.2 k
 rw [List.getD_eq_getElem?_getD, Array.getElem?_toList, ← Array.getD_eq_getD_getElem?] at h1
 exact h1
theorem TR.of {ρ : Ren} {t : TV} {a : Act} (hl : t.length = a.tmps.size) (h : ∀ k, VR ρ (t.getD k undef) (a.tmps.getD k undef)) : TR ρ t a.tmps.toList := ⟨by rw [hl, Array.length_toList], fun k => by
 rw [List.getD_eq_getElem?_getD, Array.getElem?_toList, ← Array.getD_eq_getD_getElem?]
 exact h k⟩
theorem getD_tmps {a : Act} {d : Option Tmp} {v : Value} {k : Nat} : (a.put d v).tmps.getD k undef = if d = some k ∧ k < a.tmps.size then v else a.tmps.getD k undef := by
 unfold Act.put
 cases d with
 | none => simp
 | some d =>
  simp only [Array.getD_eq_getD_getElem?, Array.getElem?_setIfInBounds, Option.some.injEq]
  by_cases h : d = k
  ·subst h
   by_cases h2 : d < a.tmps.size
   ·simp [h2]
   ·simp [h2]
  ·simp [h]
theorem size_put {a : Act} {d : Option Tmp} {v : Value} : (a.put d v).tmps.size = a.tmps.size := by
 unfold Act.put
 cases d <;> simp
theorem defers_put {a : Act} {d : Option Tmp} {v : Value} : (a.put d v).defers = a.defers := by
 unfold Act.put
 cases d <;> rfl
theorem evL_same {t t2 : TV} {x : Operand} (h : ∀ k, x = .tmp k → t.getD k undef = t2.getD k undef) : evL t x = evL t2 x := by
 cases x with
 | tmp k => exact h k rfl
 | _ => rfl
theorem mem_opT {o : Oper} {k : Nat} (h : Operand.tmp k ∈ o.op.operands) : k ∈ opT o := by
 unfold opT
 rw [List.mem_filterMap]
 exact ⟨.tmp k, by simpa using h, rfl⟩
theorem vr_operand {ρ : Ren} {t : TV} {a : Act} {x : Operand} (ho : opndOk x = true) (h : ∀ k, x = .tmp k → VR ρ (t.getD k undef) (a.tmps.getD k undef)) : VR ρ (evL t x) (a.eval x) := by
 cases x with
 | tmp k => exact h k rfl
 | const v => exact VR.plain 20 v ho
 | global g => cases ho
 | func f => exact .funcL _ .nil .nil
theorem vr_wanted {ρ : Ren} {ops : Array Oper} {t : TV} {a : Act} {o : Oper} (hl : t.length = a.tmps.size) (h : ∀ k ∈ guardT ops o, VR ρ (t.getD k undef) (a.tmps.getD k undef)) : Region.wanted o (yielded ops a.tmps) = wantedL ops t o := by
 unfold Region.wanted wantedL
 cases hg : o.guard with
 | none => rfl
 | some q =>
  obtain ⟨g, b⟩ := q
  simp only
  have hy : yielded ops a.tmps g = yieldedL ops t g := by
   unfold yielded yieldedL
   cases hd : (ops[g]?).bind (·.dst) with
   | none => rfl
   | some d =>
    simp only [Option.bind_some]
    have hv := h d (by unfold guardT; rw [hg]; simp [hd])
    rw [tv_get]
    rcases Nat.lt_or_ge d t.length with h2 | h2
    ·rw [if_pos h2]
     rw [Array.getD_eq_getD_getElem?, Array.getElem?_eq_getElem (by omega)] at hv
     simp only [Option.getD_some] at hv
     rw [Array.getElem?_eq_getElem (by omega)]
     generalize t.getD d undef = u at hv
     generalize a.tmps[d]'(by omega) = u' at hv
     cases hv <;> rfl
    ·rw [if_neg (by omega), Array.getElem?_eq_none (by omega)]
  rw [hy]
  cases hyl : yieldedL ops t g with
  | none => cases b <;> rfl
  | some c => cases b <;> cases c <;> rfl
theorem wanted_same {ops : Array Oper} {t t2 : TV} {o : Oper} (hl : t.length = t2.length) (h : ∀ k ∈ guardT ops o, t.getD k undef = t2.getD k undef) : wantedL ops t o = wantedL ops t2 o := by
 unfold wantedL
 cases hg : o.guard with
 | none => rfl
 | some q =>
  obtain ⟨g, b⟩ := q
  simp only
  have hy : yieldedL ops t g = yieldedL ops t2 g := by
   unfold yieldedL
   cases hd : (ops[g]?).bind (·.dst) with
   | none => rfl
   | some d =>
    simp only [Option.bind_some]
    have hv := h d (by unfold guardT; rw [hg]; simp [hd])
    rw [tv_get, tv_get, hl, hv]
  rw [hy]
theorem testBit_set (d i k : Nat) : (d ||| 2 ^ i).testBit k = true ↔ d.testBit k = true ∨ i = k := by
 rw [Nat.testBit_or, Nat.testBit_two_pow]
 simp
theorem ER.perm {ρ : Ren} {es es2 : List (Value × Value)} (hp : es.Perm es2) : ∀ l, ER ρ es l → ∃ l2, l.Perm l2 ∧ ER ρ es2 l2 := by
 induction hp with
 | nil => intro l h; exact ⟨l, .refl _, h⟩
 | cons x _ ih =>
  intro l h
  cases h with
  | cons hv hpl t =>
   obtain ⟨l2, h1, h2⟩ := ih _ t
   exact ⟨_, .cons _ h1, .cons hv hpl h2⟩
 | swap x y l0 =>
  intro l h
  cases h with
  | cons hv hpl t =>
   cases t with
   | cons hv2 hpl2 t => exact ⟨_, .swap _ _ _, .cons hv2 hpl2 (.cons hv hpl t)⟩
 | trans _ _ ih1 ih2 =>
  intro l h
  obtain ⟨l2, h1, h2⟩ := ih1 l h
  obtain ⟨l3, h3, h4⟩ := ih2 l2 h2
  exact ⟨l3, h1.trans h3, h4⟩
theorem MapR.perm {ρ : Ren} {es es2 : List (Value × Value)} {es' : List MapEntry} (hp : es.Perm es2) (h : MapR ρ es es') : MapR ρ es2 es' := by
 obtain ⟨l, h1, h2⟩ := h
 obtain ⟨l2, h3, h4⟩ := ER.perm hp l h2
 exact ⟨l2, h3.symm.trans h1, h4⟩
theorem Rel.other {ρ : Ren} {A : AW} {w w1 : World} (h : Rel ρ A w) {b : Nat} {es : Array MapEntry} {clk : Nat} (hb : w.heap[b]? = some (.map es clk)) (hl : ¬ Live ρ A b) (hk : ∀ k, k ≠ b → w1.heap[k]? = w.heap[k]?) : Rel ρ A w1 := by
 refine ⟨h.dom, h.fresh, fun j M C h3 h4 => ?_, h.sep⟩
 have hbr := h.blk j M C h3 h4
 cases hs : solid C with
 | false => exact hbr.hollow hs
 | true =>
  have hne : M.b ≠ b := by
   intro e
   cases hm : mutB C with
   | true => exact hl ⟨j, M, C, h3, h4, hm, e⟩
   | false =>
    cases C with
    | cells c ro kd =>
     rcases hbr.2 with ⟨rfl, rfl⟩ | ⟨c', e', fr, hh, _⟩
     ·simp [solid] at hs
     ·rw [e, hb] at hh; cases hh
    | map es => cases hm
    | iter s p => cases hm
  rw [hk _ hne]
  exact hbr
end Go.Proofs.YtpegcppeobndcaaGreatDoor.Abs
namespace Go.Proofs.YtpegcppeobndcaaGreatDoor.Abs
def isD (l : Array Bool) (i : Nat) : Prop := l.getD i false = true
theorem isD_set {l : Array Bool} {i k : Nat} (hi : i < l.size) : isD (l.setIfInBounds i true) k ↔ isD l k ∨ i = k := by
 unfold isD
 rw [Array.getD_eq_getD_getElem?, Array.getD_eq_getD_getElem?, Array.getElem?_setIfInBounds]
 by_cases h : i = k
 ·subst h; simp [hi]
 ·simp [h]
def SlotIs (t : TV) (o : Oper) (v : Value) : Prop := ∀ d, o.dst = some d → d < t.length → t.getD d undef = v
def insD (l : Array Bool) (ins : List (Nat × Value × Value)) : List (Value × Value) := (ins.filter fun e => l.getD e.1 false).map (·.2)
section
variable (P : Program) (F : CallF) (ops : Array Oper) (fl : Option Tmp) (A0 : AW) (w0 : World) (ρ0 : Ren) (dfr : List Deferred)
inductive PD (ρ : Ren) (s : DS) (i : Nat) (o : Oper) : Prop where
 | off (h : wantedL ops s.t o = false) (hs : SlotIs s.t o undef) (nin : ∀ e ∈ s.ins, e.1 ≠ i) (nsu : ∀ r, s.susp ≠ some (i, r))
 | read (v : Value) (h : wantedL ops s.t o = true) (hk : readOp o.op = true) (he : exA P F s.t o s.A = some (v, s.A)) (hs : SlotIs s.t o v) (hm : memOp o.op = true → (i, Snap.re o v) ∈ s.snaps) (nin : ∀ e ∈ s.ins, e.1 ≠ i) (nsu : ∀ r, s.susp ≠ some (i, r))
 | new (id : Nat) (B : ABlk) (v : Value) (h : wantedL ops s.t o = true) (hk : newOp o.op = true) (hB : s.A.get id = some B) (hid : ρ id = none) (h0 : A0.next ≤ id) (hlt : id < s.A.next) (hn : NewAt P F s.t o id B v) (hs : SlotIs s.t o v) (hm : (i, Snap.blk id) ∈ s.snaps) (hop : ∀ x ∈ o.op.operands, opndOk x = true) (nin : ∀ e ∈ s.ins, e.1 ≠ i) (nsu : ∀ r, s.susp ≠ some (i, r))
 | susp (r : Nat) (v : Value) (h : wantedL ops s.t o = true) (hk : isMake o.op = true) (hr : s.susp = some (i, r)) (hn : NewAt P F s.t o r (.map []) v) (hs : SlotIs s.t o v) (hop : ∀ x ∈ o.op.operands, opndOk x = true) (nin : ∀ e ∈ s.ins, e.1 ≠ i)
 | ins (ty : TypeId) (m : Tmp) (k x : Operand) (mi r : Nat) (h : wantedL ops s.t o = true) (ho : o.op = .insert ty (.tmp m) k x) (hd : o.dst = none) (hfl : fl = some m) (hr : s.susp = some (mi, r)) (ht : s.t.getD m undef = .map (some r)) (hin : (i, evL s.t k, evL s.t x) ∈ s.ins) (hk : opndOk k = true) (hx : opndOk x = true) (hty : insType ops.toList = some ty)
def SuspOk (ρ : Ren) (s : DS) (l : Array Bool) (w : World) : Prop := match s.susp with
 | none => s.ins = []
 | some (mi, r) => (∃ o m, ops[mi]? = some o ∧ fl = some m ∧ o.dst = some m ∧ kindFree o = true) ∧ s.A.get r = none ∧ A0.next ≤ r ∧ r < s.A.next ∧ s.done.testBit mi = true ∧
  (¬ isD l mi → ρ r = none ∧ insD l s.ins = []) ∧
  (isD l mi → ∃ L es' clk, ρ r = some L ∧ w0.heap.size ≤ L.b ∧ L.b < w.heap.size ∧ ¬ Live ρ s.A L.b ∧ w.heap[L.b]? = some (.map es' clk) ∧ MapR ρ (insD l s.ins) es'.toList)
structure J (ρ : Ren) (l : Array Bool) (a : Act) (w : World) (s : DS) : Prop where
 size : l.size = ops.size
 sub : ∀ i, isD l i → s.done.testBit i = true
 lt : ∀ i, s.done.testBit i = true → i < ops.size
 pend : ∀ (i : Nat) (o : Oper), ops[i]? = some o → s.done.testBit i = true → ¬ isD l i → kindFree o = true
 closedD : Closed ops (isD l)
 closedS : Closed ops (fun i => s.done.testBit i = true)
 rel : Rel ρ s.A w
 fr : Fr ρ0 A0 w0 ρ s.A w
 defers : a.defers = dfr
 len : s.t.length = a.tmps.size
 slots : ∀ k, (∀ (i : Nat) (o : Oper), ops[i]? = some o → s.done.testBit i = true → ¬ isD l i → o.dst ≠ some k) → VR ρ (s.t.getD k undef) (a.tmps.getD k undef)
 pds : ∀ (i : Nat) (o : Oper), ops[i]? = some o → s.done.testBit i = true → ¬ isD l i → PD P F ops fl A0 ρ s i o
 insI : ∀ e ∈ s.ins, s.done.testBit e.1 = true
 insN : s.ins.Pairwise fun e f => e.1 ≠ f.1
 susp : SuspOk ops fl A0 w0 ρ s l w
 snB : ∀ i j id, (i, Snap.blk id) ∈ s.snaps → (j, Snap.blk id) ∈ s.snaps → i = j
 snL : ∀ i id, (i, Snap.blk id) ∈ s.snaps → id < s.A.next
 snS : ∀ i id m r, (i, Snap.blk id) ∈ s.snaps → s.susp = some (m, r) → r ≠ id
variable {P F ops fl A0 w0 ρ0 dfr}
variable {ρ : Ren} {l : Array Bool} {a : Act} {w : World} {s : DS}
theorem J.good (h : J P F ops fl A0 w0 ρ0 dfr ρ l a w s) (D : DrawOk ops) {i : Nat} {o : Oper} (ho : ops[i]? = some o) (hi : ¬ isD l i) (he : ∀ e ∈ o.after, Region.binds .any e = true → isD l e.on) (hf : s.done.testBit i = true → kindFree o = true) {k : Tmp} (hk : k ∈ readT ops o) :
  VR ρ (s.t.getD k undef) (a.tmps.getD k undef) := by
 refine h.slots k fun j p hp hj hnd hd => ?_
 rcases Nat.lt_trichotomy j i with hlt | rfl | hgt
 ·have := D.conf j i p o hlt hp ho (clash_dst hd (.inl hk))
  exact hnd (anc_of_edges D h.closedD i o ho he j this)
 ·rw [ho] at hp
  cases hp
  exact D.self j o ho (hf hj) k hd hk
 ·have hkf := h.pend j p hp hj hnd
  exact (D.free i j o p hgt ho hp hkf k hd).2 hk
theorem readT_op {o : Oper} {k : Nat} (h : Operand.tmp k ∈ o.op.operands) : k ∈ readT ops o := by
 unfold readT
 rw [List.mem_append]
 exact .inl (mem_opT h)
theorem readT_guard {o : Oper} {k : Nat} (h : k ∈ guardT ops o) : k ∈ readT ops o := by
 unfold readT
 rw [List.mem_append]
 exact .inr h
theorem J.push (h : J P F ops fl A0 w0 ρ0 dfr ρ l a w s) (D : DrawOk ops) {i : Nat} {o : Oper} (ho : ops[i]? = some o) (hi : ¬ isD l i) (he : ∀ e ∈ o.after, Region.binds .any e = true → isD l e.on) (hdone : s.done.testBit i = true)
  {ρ1 : Ren} {w1 : World} {v v' : Value} (hx : Ext ρ ρ1) (hr : Rel ρ1 s.A w1) (hfr : Fr ρ0 A0 w0 ρ1 s.A w1) (hs : SlotIs s.t o v) (hv : VR ρ1 v v')
  (hp : ∀ (j : Nat) (p : Oper), ops[j]? = some p → s.done.testBit j = true → ¬ isD l j → j ≠ i → PD P F ops fl A0 ρ1 s j p) (hsu : SuspOk ops fl A0 w0 ρ1 s (l.setIfInBounds i true) w1) :
  J P F ops fl A0 w0 ρ0 dfr ρ1 (l.setIfInBounds i true) (a.put o.dst v') w1 s := by
 have hil : i < l.size := by
  rw [h.size]
  rcases Nat.lt_or_ge i ops.size with h' | h'
  ·exact h'
  ·rw [Array.getElem?_eq_none h'] at ho; cases ho
 have hkf := h.pend i o ho hdone hi
 refine ⟨by simpa using h.size, fun j hj => ?_, h.lt, fun j p hp hj hnd => ?_, fun j p hp hj e h1 h2 => ?_, h.closedS, hr, hfr, by rw [defers_put]; exact h.defers, by rw [size_put]; exact h.len, fun k hk => ?_, fun j p hjp hj hnd => ?_, h.insI, h.insN, hsu, h.snB, h.snL, h.snS⟩
 ·rcases (isD_set hil).1 hj with hj | rfl
  ·exact h.sub j hj
  ·exact hdone
 ·exact h.pend j p hp hj fun hc => hnd ((isD_set hil).2 (.inl hc))
 ·rcases (isD_set hil).1 hj with hj | rfl
  ·exact (isD_set hil).2 (.inl (h.closedD j p hp hj e h1 h2))
  ·rw [ho] at hp
   cases hp
   exact (isD_set hil).2 (.inl (he e h1 h2))
 ·rw [getD_tmps]
  by_cases hd : o.dst = some k ∧ k < a.tmps.size
  ·rw [if_pos hd, hs k hd.1 (by rw [h.len]; exact hd.2)]
   exact hv
  ·rw [if_neg hd]
   rcases Nat.lt_or_ge k a.tmps.size with hks | hks
   ·refine (h.slots k fun j p hjp hj hnd hjd => ?_).mono hx
    by_cases hji : j = i
    ·subst hji
     rw [ho] at hjp
     cases hjp
     exact hd ⟨hjd, hks⟩
    ·exact hk j p hjp hj (fun hc => by
      rcases (isD_set hil).1 hc with hc | hc
      ·exact hnd hc
      ·exact hji hc.symm) hjd
   ·have h1 : s.t.getD k undef = undef := tv_none _ (by rw [h.len]; exact hks)
    have h2 : a.tmps.getD k undef = undef := by rw [Array.getD_eq_getD_getElem?, Array.getElem?_eq_none hks]; rfl
    rw [h1, h2]
    exact VR.plain 9 _ (by rfl)
 ·exact hp j p hjp hj (fun hc => hnd ((isD_set hil).2 (.inl hc))) fun e => hnd ((isD_set hil).2 (.inr e.symm))
theorem PD.ren {ρ1 : Ren} {i : Nat} {o : Oper} (h : PD P F ops fl A0 ρ s i o) (hid : ∀ id, ρ id = none → (i, Snap.blk id) ∈ s.snaps → id < s.A.next → ρ1 id = none) : PD P F ops fl A0 ρ1 s i o := by
 cases h with
 | off h hs nin nsu => exact .off h hs nin nsu
 | read v h hk he hs hm nin nsu => exact .read v h hk he hs hm nin nsu
 | new id B v h hk hB hi h0 hlt hn hs hm hop nin nsu => exact .new id B v h hk hB (hid id hi hm hlt) h0 hlt hn hs hm hop nin nsu
 | susp r v h hk hr hn hs hop nin => exact .susp r v h hk hr hn hs hop nin
 | ins ty m k x mi r h ho hd hfl hr ht hin hk hx hty => exact .ins ty m k x mi r h ho hd hfl hr ht hin hk hx hty
theorem insD_set {l : Array Bool} {i : Nat} (hil : i < l.size) {ins : List (Nat × Value × Value)} (h : ∀ e ∈ ins, e.1 ≠ i) : insD (l.setIfInBounds i true) ins = insD l ins := by
 unfold insD
 congr 1
 refine List.filter_congr fun e he => ?_
 rw [Array.getD_eq_getD_getElem?, Array.getD_eq_getD_getElem?, Array.getElem?_setIfInBounds_ne (Ne.symm (h e he))]
theorem SuspOk.list {i : Nat} (hil : i < l.size) (h : SuspOk ops fl A0 w0 ρ s l w) (nin : ∀ e ∈ s.ins, e.1 ≠ i) (nsu : ∀ r, s.susp ≠ some (i, r)) : SuspOk ops fl A0 w0 ρ s (l.setIfInBounds i true) w := by
 unfold SuspOk at h ⊢
 cases hsp : s.susp with
 | none => rw [hsp] at h; exact h
 | some q =>
  obtain ⟨mi, r⟩ := q
  rw [hsp] at h
  simp only at h ⊢
  have hne : mi ≠ i := fun e => nsu r (by rw [hsp, e])
  have hd : isD (l.setIfInBounds i true) mi ↔ isD l mi := by
   rw [isD_set hil]
   exact ⟨fun h => h.resolve_right (Ne.symm hne), .inl⟩
  rw [insD_set hil nin]
  obtain ⟨h1, h2, h3, h4, h5, h6, h7⟩ := h
  exact ⟨h1, h2, h3, h4, h5, fun hc => h6 fun h => hc (hd.2 h), fun hc => h7 (hd.1 hc)⟩
theorem SuspOk.step {ρ1 : Ren} {w1 : World} {s1 : DS} (h : SuspOk ops fl A0 w0 ρ s l w) (hf : Fr ρ s.A w ρ1 s1.A w1) (hr : Rel ρ s.A w) (hs : s1.susp = s.susp) (hi : s1.ins = s.ins) (hg : ∀ m r, s.susp = some (m, r) → s.A.get r = none → s1.A.get r = none) (hd : ∀ i, s.done.testBit i = true → s1.done.testBit i = true) : SuspOk ops fl A0 w0 ρ1 s1 l w1 := by
 unfold SuspOk at h ⊢
 rw [hs, hi]
 cases hsp : s.susp with
 | none => rw [hsp] at h; exact h
 | some q =>
  obtain ⟨mi, r⟩ := q
  rw [hsp] at h
  simp only at h ⊢
  obtain ⟨h1, h2, h3, h4, h5, h6, h7⟩ := h
  refine ⟨h1, hg mi r hsp h2, h3, Nat.lt_of_lt_of_le h4 hf.next, hd _ h5, fun hc => ⟨(hf.ren r h4).trans (h6 hc).1, (h6 hc).2⟩, fun hc => ?_⟩
  obtain ⟨L, es', clk, q1, q2, q3, q4, q5, q6⟩ := h7 hc
  obtain ⟨z1, z2⟩ := hf.keep L.b q3 q4
  exact ⟨L, es', clk, (hf.ren r h4).trans q1, q2, Nat.lt_of_lt_of_le q3 hf.size, z2, z1.trans q5, q6.mono (hf.ext hr)⟩
theorem Fr.define {ρ : Ren} {A : AW} {w : World} {id : Nat} {o' : Obj} : ∀ k, k < w.heap.size → (w.alloc o').heap[k]? = w.heap[k]? := fun k hk => by
 have : (w.alloc o').heap = w.heap.push o' := rfl
 rw [this]
 simp [Array.getElem?_push, Nat.ne_of_lt hk]
theorem live_up {ρ : Ren} {A : AW} {w : World} {id k : Nat} (h : Live (ρ.up id ⟨w.heap.size, 0, .exact, 0⟩) A k) (hk : k < w.heap.size) : Live ρ A k := by
 obtain ⟨j, M, C, h3, h4, h5, h6⟩ := h
 unfold Ren.up at h3
 split at h3
 ·cases h3
  simp only at h6
  omega
 ·exact ⟨j, M, C, h3, h4, h5, h6⟩
theorem SuspOk.define {id : Nat} {o' : Obj} (h : SuspOk ops fl A0 w0 ρ s l w) (hx : Ext ρ (ρ.up id ⟨w.heap.size, 0, .exact, 0⟩)) (hns : ∀ m r, s.susp = some (m, r) → r ≠ id) : SuspOk ops fl A0 w0 (ρ.up id ⟨w.heap.size, 0, .exact, 0⟩) s l (w.alloc o') := by
 unfold SuspOk at h ⊢
 cases hsp : s.susp with
 | none => rw [hsp] at h; exact h
 | some q =>
  obtain ⟨mi, r⟩ := q
  rw [hsp] at h
  simp only at h ⊢
  obtain ⟨h1, h2, h3, h4, h5, h6, h7⟩ := h
  have hne := hns mi r hsp
  have hup : (ρ.up id ⟨w.heap.size, 0, .exact, 0⟩) r = ρ r := by unfold Ren.up; rw [if_neg hne]
  refine ⟨h1, h2, h3, h4, h5, fun hc => ⟨hup.trans (h6 hc).1, (h6 hc).2⟩, fun hc => ?_⟩
  obtain ⟨L, es', clk, q1, q2, q3, q4, q5, q6⟩ := h7 hc
  refine ⟨L, es', clk, hup.trans q1, q2, ?_, fun hl => q4 (live_up hl q3), ?_, q6.mono hx⟩
  ·have : (w.alloc o').heap = w.heap.push o' := rfl
   rw [this, Array.size_push]
   omega
  ·rw [Fr.define (ρ := ρ) (A := s.A) (id := id) _ q3]
   exact q5
theorem filter_perm {l : Array Bool} {i : Nat} (hil : i < l.size) (hi : ¬ isD l i) : ∀ (ins : List (Nat × Value × Value)), ins.Pairwise (fun e f => e.1 ≠ f.1) → ∀ q, (i, q) ∈ ins → (insD (l.setIfInBounds i true) ins).Perm (insD l ins ++ [q])
 | [], _, q, h => by cases h
 | e :: ins, hn, q, h => by
  rw [List.pairwise_cons] at hn
  have hb : ∀ k, (l.setIfInBounds i true).getD k false = (l.getD k false || decide (i = k)) := by
   intro k
   have := isD_set (k := k) hil
   unfold isD at this
   rw [Bool.eq_iff_iff]
   simpa using this
  have hif : l.getD i false = false := by unfold isD at hi; simpa using hi
  rcases List.mem_cons.1 h with rfl | h
  ·have h1 : insD (l.setIfInBounds i true) ins = insD l ins := insD_set hil fun f hf => Ne.symm (hn.1 f hf)
   unfold insD at h1 ⊢
   rw [List.filter_cons_of_pos (by simp [hb]), List.filter_cons_of_neg (by simp [hif]), List.map_cons, h1]
   exact (List.perm_append_singleton _ _).symm
  ·have ih := filter_perm hil hi ins hn.2 q h
   have hei : e.1 ≠ i := hn.1 _ h
   have hbe : (l.setIfInBounds i true).getD e.1 false = l.getD e.1 false := by rw [hb]; simp [Ne.symm hei]
   unfold insD at ih ⊢
   rw [List.filter_cons, List.filter_cons, hbe]
   cases l.getD e.1 false with
   | true => simpa using ih
   | false => simpa using ih
theorem J.exec (h : J P F ops fl A0 w0 ρ0 dfr ρ l a w s) (D : DrawOk ops) (hr0 : Rel ρ0 A0 w0) {i : Nat} {o : Oper} (ho : ops[i]? = some o) (hi : ¬ isD l i) (he : ∀ e ∈ o.after, Region.binds .any e = true → isD l e.on) (hdone : s.done.testBit i = true)
  (hpw : s.ins ≠ [] → ∃ kt et ty, insType ops.toList = some ty ∧ P.underlying ty = some (.map kt et) ∧ (∀ e ∈ s.ins, keyFine P kt e.2.1 false = true) ∧ ∀ e ∈ s.ins, ∀ f ∈ s.ins, e.1 ≠ f.1 → keyTest P kt e.2.1 f.2.1 = some false)
  {Q : Exit → Act → World → Prop} {K : Act → World → Prop} (hK : ∀ ρ1 a1 w1, J P F ops fl A0 w0 ρ0 dfr ρ1 (l.setIfInBounds i true) a1 w1 s → K a1 w1) (G : Good P) {W0 : World} (hF : FOk P W0 F) (hb0 : Base W0 ρ0 A0 w0) : wpOp P ops Q i K a w := by
 have hil : i < l.size := by
  rw [h.size]
  rcases Nat.lt_or_ge i ops.size with h' | h'
  ·exact h'
  ·rw [Array.getElem?_eq_none h'] at ho; cases ho
 have hkf := h.pend i o ho hdone hi
 have hgood : ∀ k ∈ readT ops o, VR ρ (s.t.getD k undef) (a.tmps.getD k undef) := fun k hk => h.good D ho hi he (fun _ => hkf) hk
 have hwant := vr_wanted (o := o) h.len fun k hk => hgood k (readT_guard hk)
 have hopnd : ∀ x ∈ o.op.operands, opndOk x = true → VR ρ (evL s.t x) (a.eval x) := fun x hx hox => vr_operand hox fun k hk => hgood k (readT_op (hk ▸ hx))
 unfold wpOp
 rw [ho]
 simp only
 rw [hwant]
 cases h.pds i o ho hdone hi with
 | off hw hs nin nsu =>
  rw [hw]
  simp only [Bool.false_eq_true, if_false]
  exact hK ρ _ w (h.push D ho hi he hdone (Ext.refl _) h.rel h.fr hs (VR.plain 9 _ (by rfl)) (fun j p hp hj hnd _ => h.pds j p hp hj hnd) (h.susp.list hil nin nsu))
 | read v hw hk hex hs hm nin nsu =>
  rw [hw]
  simp only [if_true]
  refine .inl (exA_ok G hF hex h.rel (hb0.trans h.fr) hopnd fun ρ1 v' w1 hr1 hf1 hv1 => ?_)
  have hsu := (h.susp.step (s1 := s) hf1 h.rel rfl rfl (fun _ _ _ h => h) fun _ h => h).list hil nin nsu
  exact hK ρ1 _ w1 (h.push D ho hi he hdone (hf1.ext h.rel) hr1 (h.fr.trans hf1) hs hv1 (fun j p hp hj hnd _ => (h.pds j p hp hj hnd).ren fun id h1 _ h2 => (hf1.ren id h2).trans h1) hsu)
 | new id B v hw hk hB hid h0 hlt hn hs hm hop nin nsu =>
  rw [hw]
  simp only [if_true]
  have hops : ∀ x ∈ o.op.operands, VR ρ (evL s.t x) (a.eval x) := fun x hx => hopnd x hx (hop x hx)
  obtain ⟨o', v', q1, q2, q3⟩ := hn.spec G hk ⟨ρ, a, hops⟩ ρ a w hops
  obtain ⟨r1, r2, r3⟩ := h.rel.define hid hlt (.inr ⟨hB, q2⟩)
  refine .inl ?_
  unfold Oper.wp
  rw [q1]
  refine hK _ _ _ (h.push D ho hi he hdone r3 r1 (r2 ρ0 A0 w0 hr0 h.fr h0) hs (q3 _ (by simp [Ren.up])) (fun j p hp hj hnd hji => (h.pds j p hp hj hnd).ren fun id' h1 h2 _ => ?_) ((h.susp.define r3 fun m r hsr => h.snS i id m r hm hsr).list hil nin nsu))
  unfold Ren.up
  rw [if_neg (fun e => by subst e; exact hji (h.snB j i _ h2 hm))]
  exact h1
 | susp r v hw hk hr hn hs hop nin =>
  rw [hw]
  simp only [if_true]
  have hops : ∀ x ∈ o.op.operands, VR ρ (evL s.t x) (a.eval x) := fun x hx => hopnd x hx (hop x hx)
  have hsu := h.susp
  unfold SuspOk at hsu
  rw [hr] at hsu
  simp only at hsu
  obtain ⟨h1, h2, h3, h4, h5, h6, h7⟩ := hsu
  obtain ⟨hid, hemp⟩ := h6 hi
  obtain ⟨o', v', q1, q2, q3⟩ := hn.spec G (isMake_new hk) ⟨ρ, a, hops⟩ ρ a w hops
  obtain ⟨r1, r2, r3⟩ := h.rel.define (o' := o') (B := .map []) hid h4 (.inl h2)
  refine .inl ?_
  unfold Oper.wp
  rw [q1]
  refine hK _ _ _ (h.push D ho hi he hdone r3 r1 (r2 ρ0 A0 w0 hr0 h.fr h3) hs (q3 _ (by simp [Ren.up])) (fun j p hp hj hnd hji => (h.pds j p hp hj hnd).ren fun id' z1 z2 _ => ?_) ?_)
  ·unfold Ren.up
   rw [if_neg (fun e => h.snS j id' i r z2 hr e.symm)]
   exact z1
  ·obtain ⟨es', clk, z1, z2⟩ := q2
   cases z1
   unfold SuspOk
   rw [hr]
   simp only
   have hilb : isD (l.setIfInBounds i true) i := (isD_set hil).2 (.inr rfl)
   refine ⟨h1, h2, h3, h4, h5, fun hc => absurd hilb hc, fun _ => ⟨⟨w.heap.size, 0, .exact, 0⟩, es', clk, by simp [Ren.up], h.fr.size, ?_, fun hl => ?_, ?_, ?_⟩⟩
   ·have : (w.alloc (.map es' clk)).heap = w.heap.push (.map es' clk) := rfl
    rw [this]; simp
   ·obtain ⟨j, M, C, h8, h9, h10, h11⟩ := hl
    unfold Ren.up at h8
    split at h8
    ·rename_i hjr
     rw [hjr, h2] at h9
     cases h9
    ·have := h.rel.lt h8 h9 (mut_solid h10)
     simp only at h11
     omega
   ·have : (w.alloc (.map es' clk)).heap = w.heap.push (.map es' clk) := rfl
    rw [this]; simp
   ·rw [insD_set hil nin, hemp]
    exact z2.mono r3
 | ins ty m k x mi r hw hop hd hfl hr ht hin hk hx hty =>
  rw [hw]
  simp only [if_true]
  have hsu := h.susp
  unfold SuspOk at hsu
  rw [hr] at hsu
  simp only at hsu
  obtain ⟨⟨mo, mm, g1, g2, g3, g4⟩, h2, h3, h4, h5, h6, h7⟩ := hsu
  rw [hfl] at g2
  cases g2
  have hm1 : Operand.tmp m ∈ o.op.operands := by rw [hop]; simp [Op.operands]
  have hk1 : k ∈ o.op.operands := by rw [hop]; simp [Op.operands]
  have hx1 : x ∈ o.op.operands := by rw [hop]; simp [Op.operands]
  have hmD : isD l mi := by
   rcases Nat.lt_trichotomy mi i with hlt | rfl | hgt
   ·have := D.conf mi i mo o hlt g1 ho (clash_dst g3 (.inl (readT_op hm1)))
    exact anc_of_edges D h.closedD i o ho he mi this
   ·rw [ho] at g1
    cases g1
    rw [hd] at g3
    cases g3
   ·exact absurd (readT_op hm1) (D.free i mi o mo hgt ho g1 g4 m g3).2
  obtain ⟨L, es', clk, q1, q2, q3, q4, q5, q6⟩ := h7 hmD
  have vm := hopnd _ hm1 rfl
  have vk := hopnd _ hk1 hk
  have vx := hopnd _ hx1 hx
  have hme : a.eval (.tmp m) = .map (some L.b) := by
   have h8 : evL s.t (.tmp m) = .map (some r) := ht
   rw [h8] at vm
   generalize a.eval (.tmp m) = z at vm
   cases vm with
   | map hh => rw [q1] at hh; cases hh; rfl
  obtain ⟨kt, et, ty2, p1, p2, p3, p4⟩ := hpw (List.ne_nil_of_mem hin)
  rw [hty] at p1
  cases p1
  have hkf2 := p3 _ hin
  obtain ⟨hck, hpk⟩ := keyFine_run hkf2 w
  obtain ⟨d, hdk⟩ := checkKey_under hkf2
  have hke : evL s.t k = a.eval k := VR.plain_eq 9 _ _ hpk vk
  have hno : ∀ e' ∈ es'.toList, keyTest P kt (evL s.t k) e'.key = some false := by
   obtain ⟨lp, lp1, lp2⟩ := q6
   intro e' he'
   have z1 : (e'.key, e'.val) ∈ lp := lp1.mem_iff.2 (List.mem_map.2 ⟨e', he', rfl⟩)
   have z2 : e'.key ∈ lp.map (·.1) := List.mem_map.2 ⟨_, z1, rfl⟩
   rw [lp2.keys] at z2
   obtain ⟨q, hq, hqk⟩ := List.mem_map.1 z2
   unfold insD at hq
   obtain ⟨f, hf, hfq⟩ := List.mem_map.1 hq
   rw [List.mem_filter] at hf
   rw [← hqk, ← hfq]
   refine p4 _ hin f hf.1 fun e => hi ?_
   simp only at e
   rw [e]
   exact hf.2
  have hfind := run_findKey w es'.toList (T := tst P kt (evL s.t k)) (fun x hx => (tst_of (hno x hx)).1) hdk
  rw [firstT_none _ _ fun x hx => (tst_of (hno x hx)).2] at hfind
  obtain ⟨E, hE⟩ : ∃ E : Array MapEntry, E = es'.push ({ key := evL s.t k, val := a.eval x, born := clk } : MapEntry) := ⟨_, rfl⟩
  have hob := getObj_run (P := P) q5
  have hset := setObj_run (P := P) (es2 := E) (clk2 := clk + 1) q5
  have hrun : (execOp a.eval o).run P w = .ok .skip { w with heap := w.heap.setIfInBounds L.b (.map E (clk + 1)) } := by
   have h8 : execOp a.eval o = (do Instr.mapUpdate ty (a.eval (.tmp m)) (a.eval k) (a.eval x); pure .skip : Sem Next) := by unfold execOp; rw [hop]
   rw [h8, hme, ← hke]
   rw [hE] at hset ⊢
   simp [Instr.mapUpdate, run_und p2, hob, hck, hfind, hset]
  refine .inl ?_
  unfold Oper.wp
  rw [hrun]
  have hkeep : ∀ k, k ≠ L.b → ({ w with heap := w.heap.setIfInBounds L.b (.map E (clk + 1)) } : World).heap[k]? = w.heap[k]? := fun k hk => by simp [Array.getElem?_setIfInBounds_ne (Ne.symm hk)]
  have hrel := h.rel.other q5 q4 hkeep
  have hfr : Fr ρ0 A0 w0 ρ s.A { w with heap := w.heap.setIfInBounds L.b (.map E (clk + 1)) } := by
   refine ⟨h.fr.ren, h.fr.next, h.fr.os, h.fr.tape, h.fr.output, by simpa using h.fr.size, fun k hk hl => ?_⟩
   obtain ⟨z1, z2⟩ := h.fr.keep k hk hl
   exact ⟨(hkeep k (by omega)).trans z1, z2⟩
  refine hK ρ _ _ (h.push D ho hi he hdone (v := undef) (v' := undef) (Ext.refl _) hrel hfr (fun d hd2 => by rw [hd] at hd2; cases hd2) (VR.plain 9 _ (by rfl)) (fun j p hp hj hnd _ => h.pds j p hp hj hnd) ?_)
  unfold SuspOk
  rw [hr]
  simp only
  have hmD2 : isD (l.setIfInBounds i true) mi := (isD_set hil).2 (.inl hmD)
  refine ⟨⟨mo, m, g1, hfl, g3, g4⟩, h2, h3, h4, h5, fun hc => absurd hmD2 hc, fun _ => ⟨L, E, clk + 1, q1, q2, by simpa using q3, q4, by simp [q3], ?_⟩⟩
  refine MapR.perm (filter_perm hil hi s.ins h.insN _ hin).symm ?_
  obtain ⟨lp, lp1, lp2⟩ := q6
  refine ⟨lp ++ [(evL s.t k, a.eval x)], ?_, lp2.join (.cons vx hpk .nil)⟩
  rw [hE, Array.toList_push, List.map_append]
  exact lp1.append_right _
end
end Go.Proofs.YtpegcppeobndcaaGreatDoor.Abs
namespace Go.Proofs.YtpegcppeobndcaaGreatDoor.Abs
theorem Rel.addPend {ρ : Ren} {A : AW} {w : World} (h : Rel ρ A w) (B : ABlk) : Rel ρ (A.add B) w ∧ ∀ k, Live ρ (A.add B) k → Live ρ A k := by
 have hg : ∀ j L C, ρ j = some L → (A.add B).get j = some C → A.get j = some C := fun j L C h1 e => by
  rw [AW.get_add, if_neg (Nat.ne_of_lt (h.dom j L h1))] at e
  exact e
 refine ⟨⟨fun j M e => ?_, fun j hj => ?_, fun j M C h3 h4 => h.blk j M C h3 (hg _ _ _ h3 h4), fun j l M N C D hjl h3 h4 h5 h6 hc hd => h.sep j l M N C D hjl h3 h4 (hg _ _ _ h3 h5) (hg _ _ _ h4 h6) hc hd⟩, fun k ⟨j, M, C, h3, h4, h5, h6⟩ => ⟨j, M, C, h3, hg _ _ _ h3 h4, h5, h6⟩⟩
 ·have := h.dom j M e; simp; omega
 ·simp only [AW.next_add] at hj
  rw [AW.get_add, if_neg (by omega)]
  exact h.fresh j (by omega)
theorem Fr.addPend {ρ0 ρ : Ren} {A0 A : AW} {w0 w : World} (h : Fr ρ0 A0 w0 ρ A w) (hr : Rel ρ A w) (B : ABlk) : Fr ρ0 A0 w0 ρ (A.add B) w :=
 ⟨h.ren, by have := h.next; simp; omega, h.os, h.tape, h.output, h.size, fun k hk hl => ⟨(h.keep k hk hl).1, fun hc => (h.keep k hk hl).2 ((hr.addPend B).2 k hc)⟩⟩
theorem Fr.killed {ρ0 ρ : Ren} {A0 A : AW} {w0 w : World} (h : Fr ρ0 A0 w0 ρ A w) (hr : Rel ρ A w) (i : Nat) : Fr ρ0 A0 w0 ρ (A.put i none) w := h.trans (hr.kill i).2
section
variable {P : Program} {F : CallF} {ops : Array Oper} {fl : Option Tmp} {A0 : AW} {w0 : World} {ρ0 : Ren} {dfr : List Deferred} {ρ : Ren} {l : Array Bool} {a : Act} {w : World} {s : DS}
theorem J.apart (h : J P F ops fl A0 w0 ρ0 dfr ρ l a w s) (D : DrawOk ops) {i j : Nat} {o p : Oper} (ho : ops[i]? = some o) (hi : s.done.testBit i = false) (hp : ops[j]? = some p) (hj : s.done.testBit j = true)
  (hif : kindFree o = true ∨ ((∀ k, (anc ops i).testBit k = true → isD l k) ∧ ¬ isD l j)) : ∀ d, o.dst = some d → d ∉ readT ops p ∧ p.dst ≠ some d := by
 intro d hd
 have hS : ∀ k, (anc ops j).testBit k = true → s.done.testBit k = true := fun k hk => anc_of_edges D h.closedS j p hp (fun e h1 h2 => h.closedS j p hp hj e h1 h2) k hk
 rcases Nat.lt_trichotomy j i with hlt | rfl | hgt
 ·rcases hif with hif | ⟨hif, hnd⟩
  ·have := D.free j i p o hlt hp ho hif d hd
   exact ⟨this.2, this.1⟩
  ·refine ⟨fun hc => hnd (hif j (D.conf j i p o hlt hp ho (clash_read hd hc))), fun hc => hnd (hif j (D.conf j i p o hlt hp ho (clash_dst hc (.inr hd))))⟩
 ·rw [hi] at hj; cases hj
 ·have key : ∀ hc : clash ops o p = true, False := fun hc => by
   have := hS i (D.conf i j o p hgt ho hp hc)
   rw [hi] at this
   cases this
  exact ⟨fun hc => key (clash_dst hd (.inl hc)), fun hc => key (clash_dst hd (.inr hc))⟩
theorem reads_same {t : TV} {o p : Oper} {v : Value} (h : ∀ d, o.dst = some d → d ∉ readT ops p ∧ p.dst ≠ some d) : (∀ k ∈ readT ops p, (putL t o.dst v).getD k undef = t.getD k undef) ∧ ∀ d, p.dst = some d → (putL t o.dst v).getD d undef = t.getD d undef := by
 refine ⟨fun k hk => ?_, fun d hd => ?_⟩
 ·rw [getD_put, if_neg]
  rintro ⟨hc, _⟩
  exact (h k hc).1 hk
 ·rw [getD_put, if_neg]
  rintro ⟨hc, _⟩
  exact (h d hc).2 hd
theorem PD.over {s1 : DS} {j : Nat} {p : Oper} (h : PD P F ops fl A0 ρ s j p) (hl : s1.t.length = s.t.length) (hr : ∀ k ∈ readT ops p, s1.t.getD k undef = s.t.getD k undef) (hd : ∀ d, p.dst = some d → s1.t.getD d undef = s.t.getD d undef)
  (hsn : ∀ x ∈ s.snaps, x ∈ s1.snaps) (hin : ∀ e ∈ s.ins, e ∈ s1.ins) (hnin : (∀ e ∈ s.ins, e.1 ≠ j) → ∀ e ∈ s1.ins, e.1 ≠ j) (hsu : ∀ q, s.susp = some q → s1.susp = some q) (hnsu : (∀ r, s.susp ≠ some (j, r)) → ∀ r, s1.susp ≠ some (j, r))
  (hnx : s.A.next ≤ s1.A.next) (hread : ∀ v, readOp p.op = true → exA P F s.t p s.A = some (v, s.A) → (memOp p.op = true → (j, Snap.re p v) ∈ s.snaps) → exA P F s1.t p s1.A = some (v, s1.A))
  (hblk : ∀ id B, (j, Snap.blk id) ∈ s.snaps → s.A.get id = some B → s1.A.get id = some B) : PD P F ops fl A0 ρ s1 j p := by
 have hw : wantedL ops s1.t p = wantedL ops s.t p := wanted_same hl fun k hk => hr k (readT_guard hk)
 have hev : ∀ x ∈ p.op.operands, evL s.t x = evL s1.t x := fun x hx => evL_same fun k hk => (hr k (readT_op (hk ▸ hx))).symm
 have hs' : ∀ v, SlotIs s.t p v → SlotIs s1.t p v := fun v hs d hpd hlt => by rw [hd d hpd]; exact hs d hpd (by rw [← hl]; exact hlt)
 cases h with
 | off h hs nin nsu => exact .off (hw.trans h) (hs' _ hs) (hnin nin) (hnsu nsu)
 | read v h hk he hs hm nin nsu => exact .read v (hw.trans h) hk (hread v hk he hm) (hs' _ hs) (fun h => hsn _ (hm h)) (hnin nin) (hnsu nsu)
 | new id B v h hk hB hi h0 hlt hn hs hm hop nin nsu =>
  refine .new id B v (hw.trans h) hk (hblk id B hm hB) hi h0 (Nat.lt_of_lt_of_le hlt hnx) ?_ (hs' _ hs) (hsn _ hm) hop (hnin nin) (hnsu nsu)
  obtain ⟨A, h1, h2⟩ := hn
  exact ⟨A, h1, by rw [← exA_congr hev (by simp [hk]) A]; exact h2⟩
 | susp r v h hk hr2 hn hs hop nin =>
  refine .susp r v (hw.trans h) hk (hsu _ hr2) ?_ (hs' _ hs) hop (hnin nin)
  obtain ⟨A, h1, h2⟩ := hn
  exact ⟨A, h1, by rw [← exA_congr hev (by simp [isMake_new hk]) A]; exact h2⟩
 | ins ty m k x mi r h ho hd2 hfl hr2 ht hi hk hx hty =>
  have hm1 : Operand.tmp m ∈ p.op.operands := by rw [ho]; simp [Op.operands]
  have hk1 : k ∈ p.op.operands := by rw [ho]; simp [Op.operands]
  have hx1 : x ∈ p.op.operands := by rw [ho]; simp [Op.operands]
  exact .ins ty m k x mi r (hw.trans h) ho hd2 hfl (hsu _ hr2) ((hr m (readT_op hm1)).trans ht) (by rw [← hev k hk1, ← hev x hx1]; exact hin _ hi) hk hx hty
theorem J.free (h : J P F ops fl A0 w0 ρ0 dfr ρ l a w s) (D : DrawOk ops) {i : Nat} {o : Oper} (ho : ops[i]? = some o) (hi : s.done.testBit i = false) (he : ∀ e ∈ o.after, Region.binds .any e = true → s.done.testBit e.on = true) (hk : freeK fl o = true)
  {s1 : DS} (hs : stepFree P F ops fl i o s = some s1) : J P F ops fl A0 w0 ρ0 dfr ρ l a w s1 := by
 have hkf : kindFree o = true := by
  unfold freeK at hk
  unfold kindFree
  simp only [Bool.or_eq_true, Bool.and_eq_true] at hk ⊢
  rcases hk with hk | hk
  ·exact .inl hk
  ·exact .inr hk.2
 have hnD : ¬ isD l i := fun hc => by have := h.sub i hc; rw [hi] at this; cases this
 have hisz : i < ops.size := by
  rcases Nat.lt_or_ge i ops.size with h' | h'
  ·exact h'
  ·rw [Array.getElem?_eq_none h'] at ho; cases ho
 have hself : ∀ d, o.dst = some d → d ∉ readT ops o := D.self i o ho hkf
 have hsame : ∀ (v : Value), (∀ k ∈ readT ops o, (putL s.t o.dst v).getD k undef = s.t.getD k undef) := fun v k hk => by
  rw [getD_put, if_neg]
  rintro ⟨hc, _⟩
  exact hself k hc hk
 have hslot : ∀ v, SlotIs (putL s.t o.dst v) o v := fun v d hd hlt => by
  rw [length_put] at hlt
  rw [getD_put, if_pos ⟨hd, hlt⟩]
 have hwsame : ∀ v, wantedL ops (putL s.t o.dst v) o = wantedL ops s.t o := fun v => wanted_same length_put fun k hk => hsame v k (readT_guard hk)
 have hevsame : ∀ v, ∀ x ∈ o.op.operands, evL s.t x = evL (putL s.t o.dst v) x := fun v x hx => evL_same fun k hk => (hsame v k (readT_op (hk ▸ hx))).symm
 have hnin : ∀ e ∈ s.ins, e.1 ≠ i := fun e he hc => by have := h.insI e he; rw [hc, hi] at this; cases this
 have hnsu : ∀ r, s.susp ≠ some (i, r) := fun r hc => by
  have := h.susp
  unfold SuspOk at this
  rw [hc] at this
  simp only at this
  rw [hi] at this
  exact absurd this.2.2.2.2.1 (by simp)
 have hsus : ∀ m r, s.susp = some (m, r) → r < s.A.next ∧ s.A.get r = none := fun m r hc => by
  have := h.susp
  unfold SuspOk at this
  rw [hc] at this
  exact ⟨this.2.2.2.1, this.2.1⟩
 have fin : ∀ (v : Value) (s1 : DS), s1.done = s.done ||| 2 ^ i → s1.t = putL s.t o.dst v → s.A.next ≤ s1.A.next → Rel ρ s1.A w → Fr ρ0 A0 w0 ρ s1.A w → (∀ id B, s.A.get id = some B → s1.A.get id = some B) →
   PD P F ops fl A0 ρ s1 i o → (∀ x ∈ s.snaps, x ∈ s1.snaps) → (∀ e ∈ s.ins, e ∈ s1.ins) → (∀ e ∈ s1.ins, e ∈ s.ins ∨ e.1 = i) → s1.ins.Pairwise (fun e f => e.1 ≠ f.1) → (∀ q, s.susp = some q → s1.susp = some q) → (∀ m r, s1.susp = some (m, r) → s.susp = some (m, r) ∨ m = i) →
   SuspOk ops fl A0 w0 ρ s1 l w → (∀ i j id, (i, Snap.blk id) ∈ s1.snaps → (j, Snap.blk id) ∈ s1.snaps → i = j) → (∀ i id, (i, Snap.blk id) ∈ s1.snaps → id < s1.A.next) → (∀ i id m r, (i, Snap.blk id) ∈ s1.snaps → s1.susp = some (m, r) → r ≠ id) →
   J P F ops fl A0 w0 ρ0 dfr ρ l a w s1 := by
  intro v s1 e1 e2 hnx hrel hfr hget hpd hsn hin hin2 hinN hsu hsu2 hsuok hB hL hS
  have hdone : ∀ j, s1.done.testBit j = true ↔ s.done.testBit j = true ∨ i = j := fun j => by rw [e1]; exact testBit_set _ _ _
  refine ⟨h.size, fun j hj => (hdone j).2 (.inl (h.sub j hj)), fun j hj => ?_, fun j p hp hj hnd => ?_, h.closedD, fun j p hp hj e h1 h2 => ?_, hrel, hfr, h.defers, by rw [e2, length_put]; exact h.len, fun k hk => ?_, fun j p hp hj hnd => ?_, fun e he => ?_, hinN, hsuok, hB, hL, hS⟩
  ·rcases (hdone j).1 hj with hj | rfl
   ·exact h.lt j hj
   ·exact hisz
  ·rcases (hdone j).1 hj with hj | rfl
   ·exact h.pend j p hp hj hnd
   ·rw [ho] at hp; cases hp; exact hkf
  ·rcases (hdone j).1 hj with hj | rfl
   ·exact (hdone _).2 (.inl (h.closedS j p hp hj e h1 h2))
   ·rw [ho] at hp; cases hp; exact (hdone _).2 (.inl (he e h1 h2))
  ·have hne : o.dst ≠ some k := hk i o ho ((hdone i).2 (.inr rfl)) hnD
   rw [e2, getD_put, if_neg (fun hc => hne hc.1)]
   exact h.slots k fun j p hp hj hnd => hk j p hp ((hdone j).2 (.inl hj)) hnd
  ·rcases (hdone j).1 hj with hj | rfl
   ·have hji : j ≠ i := fun e => by rw [e, hi] at hj; cases hj
    have hap := h.apart D ho hi hp hj (.inl hkf)
    obtain ⟨z1, z2⟩ := reads_same (t := s.t) (v := v) hap
    refine (h.pds j p hp hj hnd).over (by rw [e2, length_put]) (by rw [e2]; exact z1) (by rw [e2]; exact z2) hsn hin (fun hc e he => ?_) hsu (fun hc r hr => ?_) hnx (fun u hkr hex _ => ?_) (fun id B _ hB => hget id B hB)
    ·rcases hin2 e he with he | he
     ·exact hc e he
     ·rw [he]; exact Ne.symm hji
    ·rcases hsu2 j r hr with hr | hr
     ·exact hc r hr
     ·exact hji hr
    ·have hmono := (exR_mono hkr hex rfl).2 s1.A hget
     rw [← exA_congr (t := s.t) (fun x hx => evL_same fun k hk => by rw [e2]; exact (z1 k (readT_op (hk ▸ hx))).symm) (by simp [hkr])]
     exact hmono
   ·rw [ho] at hp; cases hp; exact hpd
  ·rcases hin2 e he with he | he
   ·exact (hdone _).2 (.inl (h.insI e he))
   ·exact (hdone _).2 (.inr he.symm)
 have hsuokA : ∀ (s1 : DS), s1.susp = s.susp → s1.ins = s.ins → s.A.next ≤ s1.A.next → (∀ j, s.done.testBit j = true → s1.done.testBit j = true) → (∀ m r, s.susp = some (m, r) → s1.A.get r = none) → (∀ k, Live ρ s1.A k → Live ρ s.A k) → SuspOk ops fl A0 w0 ρ s1 l w := by
  intro s1 e1 e2 hnx hdn hg hlv
  have hq := h.susp
  unfold SuspOk at hq ⊢
  rw [e1, e2]
  cases hsp : s.susp with
  | none => rw [hsp] at hq; exact hq
  | some q =>
   obtain ⟨mi, r⟩ := q
   rw [hsp] at hq
   simp only at hq ⊢
   obtain ⟨h1, h2, h3, h4, h5, h6, h7⟩ := hq
   refine ⟨h1, hg mi r hsp, h3, by omega, hdn _ h5, h6, fun hc => ?_⟩
   obtain ⟨L, es', clk, q1, q2, q3, q4, q5, q6⟩ := h7 hc
   exact ⟨L, es', clk, q1, q2, q3, fun hl => q4 (hlv _ hl), q5, q6⟩
 have hdn1 : ∀ j, s.done.testBit j = true → (s.done ||| 2 ^ i).testBit j = true := fun j hj => (testBit_set _ _ _).2 (.inl hj)
 unfold stepFree at hs
 cases hw : wantedL ops s.t o with
 | false =>
  rw [hw] at hs
  simp only at hs
  cases hs
  exact fin undef _ rfl rfl (Nat.le_refl _) h.rel h.fr (fun _ _ hB => hB) (.off ((hwsame undef).trans hw) (hslot undef) hnin hnsu) (fun _ hx => hx) (fun _ he => he) (fun _ he => .inl he) h.insN (fun _ hq => hq) (fun _ _ hq => .inl hq) (hsuokA _ rfl rfl (Nat.le_refl _) hdn1 (fun m r hc => (hsus m r hc).2) fun _ hl => hl) h.snB h.snL h.snS
 | true =>
  rw [hw] at hs
  simp only at hs
  cases hii : isIns o.op with
  | true =>
   rw [hii] at hs
   simp only at hs
   split at hs
   ·rename_i m ty m' k x hop hdst
    split at hs
    ·rename_i mi r r' hsp ht
     split at hs
     ·rename_i hc
      simp only [Bool.and_eq_true, Nat.beq_eq, decide_eq_true_eq] at hc
      obtain ⟨⟨⟨⟨rfl, rfl⟩, hok⟩, hox⟩, hty⟩ := hc
      cases hs
      have hput : ∀ v, putL s.t o.dst v = s.t := fun v => by rw [hdst]; rfl
      refine fin undef _ rfl (hput undef).symm (Nat.le_refl _) h.rel h.fr (fun _ _ hB => hB) ?_ (fun _ hx => hx) (fun e he => by simp [he]) (fun e he => ?_) ?_ (fun _ hq => hq) (fun _ _ hq => .inl hq) ?_ h.snB h.snL h.snS
      ·exact .ins ty m k x mi r hw hop hdst rfl hsp ht (by simp) hok hox hty
      ·rw [List.mem_append, List.mem_singleton] at he
       rcases he with he | rfl
       ·exact .inl he
       ·exact .inr rfl
      ·rw [List.pairwise_append]
       refine ⟨h.insN, List.pairwise_singleton _ _, fun e he f hf => ?_⟩
       rw [List.mem_singleton] at hf
       subst hf
       exact hnin e he
      ·have hq := h.susp
       unfold SuspOk at hq ⊢
       simp only
       rw [hsp] at hq ⊢
       simp only at hq ⊢
       have hif : l.getD i false = false := by unfold isD at hnD; simpa using hnD
       have hins : insD l (s.ins ++ [(i, evL s.t k, evL s.t x)]) = insD l s.ins := by
        unfold insD
        rw [List.filter_append, List.filter_cons_of_neg (by simp [hif])]
        simp
       rw [hins]
       obtain ⟨h1, h2, h3, h4, h5, h6, h7⟩ := hq
       exact ⟨h1, h2, h3, h4, hdn1 _ h5, h6, h7⟩
     ·cases hs
    ·cases hs
   ·cases hs
  | false =>
   rw [hii] at hs
   simp only at hs
   cases hex : exA P F s.t o s.A with
   | none => rw [hex] at hs; cases hs
   | some q =>
    obtain ⟨v, A'⟩ := q
    rw [hex] at hs
    simp only at hs
    cases hnew : newOp o.op with
    | true =>
     rw [hnew] at hs
     simp only at hs
     obtain ⟨B, rfl⟩ := exN_add hnew hex
     have hap := h.rel.addPend B
     have hexs : exA P F (putL s.t o.dst v) o s.A = some (v, s.A.add B) := by rw [← exA_congr (hevsame v) (by simp [hnew])]; exact hex
     split at hs
     ·
      rename_i hmk hsp
      simp only [Bool.and_eq_true, decide_eq_true_eq] at hmk
      obtain ⟨⟨hfs, hmk⟩, hdf⟩ := hmk
      cases hs
      obtain ⟨m, hm⟩ := Option.isSome_iff_exists.1 hfs
      obtain ⟨hB, hv⟩ := exM_map hmk hex
      have hBm : B = .map [] := by
       have h3 : (s.A.add B).get s.A.next = some B := by rw [AW.get_add, if_pos rfl]
       rw [hB, AW.get_add, if_pos rfl] at h3
       cases h3
       rfl
      subst hBm
      have hk2 := hap.1.kill s.A.next
      have hins0 : s.ins = [] := by
       have hq := h.susp
       unfold SuspOk at hq
       rw [hsp] at hq
       exact hq
      refine fin v _ rfl rfl (by simp) hk2.1 ((h.fr.addPend h.rel _).killed hap.1 _) (fun id C hC => ?_) ?_ (fun _ hx => hx) (fun _ he => he) (fun _ he => .inl he) h.insN (fun q hq => by rw [hsp] at hq; cases hq) (fun m r hq => by cases hq; exact .inr rfl) ?_ h.snB (fun j id hj => by have := h.snL j id hj; simp; omega) (fun j id m r hj hq => by cases hq; exact Ne.symm (Nat.ne_of_lt (h.snL j id hj)))
      ·have : id ≠ s.A.next := fun e => by rw [e, h.rel.fresh _ (Nat.le_refl _)] at hC; cases hC
       simp [this, hC]
      ·exact .susp s.A.next v ((hwsame v).trans hw) hmk rfl ⟨s.A, rfl, hexs⟩ (hslot v) (exA_opnds hex) hnin
      ·unfold SuspOk
       simp only
       refine ⟨⟨o, m, ho, hm, hdf.trans hm, hkf⟩, by simp, h.fr.next, by simp, (testBit_set _ _ _).2 (.inr rfl), fun _ => ⟨?_, by rw [hins0]; rfl⟩, fun hc => absurd hc hnD⟩
       cases hρ : ρ s.A.next with
       | none => rfl
       | some L => exact absurd (h.rel.dom _ L hρ) (Nat.lt_irrefl _)
     ·cases hs
     ·rename_i hmk
      cases hs
      have hρ : ρ s.A.next = none := by
       cases hρ : ρ s.A.next with
       | none => rfl
       | some L => exact absurd (h.rel.dom _ L hρ) (Nat.lt_irrefl _)
      refine fin v _ rfl rfl (by simp) hap.1 (h.fr.addPend h.rel _) (fun id C hC => ?_) ?_ (fun x hx => by simp [hx]) (fun _ he => he) (fun _ he => .inl he) h.insN (fun _ hq => hq) (fun _ _ hq => .inl hq) (hsuokA _ rfl rfl (by simp) hdn1 (fun m r hc => ?_) hap.2) (fun j k id hj hk => ?_) (fun j id hj => ?_) (fun j id m r hj hq => ?_)
      ·have : id ≠ s.A.next := fun e => by rw [e, h.rel.fresh _ (Nat.le_refl _)] at hC; cases hC
       simp [this, hC]
      ·exact .new s.A.next B v ((hwsame v).trans hw) hnew (by simp) hρ h.fr.next (by simp) ⟨s.A, rfl, hexs⟩ (hslot v) (by simp) (exA_opnds hex) hnin hnsu
      ·obtain ⟨z1, z2⟩ := hsus m r hc
       simp only
       rw [AW.get_add, if_neg (Nat.ne_of_lt z1)]
       exact z2
      ·simp only [List.mem_cons, Prod.mk.injEq, Snap.blk.injEq] at hj hk
       rcases hj with ⟨rfl, rfl⟩ | hj
       ·rcases hk with ⟨rfl, _⟩ | hk
        ·rfl
        ·exact absurd (h.snL k _ hk) (Nat.lt_irrefl _)
       ·rcases hk with ⟨rfl, rfl⟩ | hk
        ·exact absurd (h.snL j _ hj) (Nat.lt_irrefl _)
        ·exact h.snB j k id hj hk
      ·simp only [List.mem_cons, Prod.mk.injEq, Snap.blk.injEq] at hj
       simp only [AW.next_add]
       rcases hj with ⟨rfl, rfl⟩ | hj
       ·omega
       ·have := h.snL j id hj; omega
      ·simp only [List.mem_cons, Prod.mk.injEq, Snap.blk.injEq] at hj
       rcases hj with ⟨rfl, rfl⟩ | hj
       ·exact Nat.ne_of_lt (hsus m r hq).1
       ·exact h.snS j id m r hj hq
    | false =>
     rw [hnew] at hs
     simp only at hs
     split at hs
     ·rename_i hnx
      rw [Nat.beq_eq] at hnx
      cases hs
      have hread : readOp o.op = true := by
       unfold freeK at hk
       rw [hnew, hii] at hk
       simpa using hk
      obtain ⟨rfl, hmono⟩ := exR_mono hread hex hnx.symm
      have hexs : exA P F (putL s.t o.dst v) o s.A = some (v, s.A) := by rw [← exA_congr (hevsame v) (by simp [hread])]; exact hex
      have hblk : ∀ x : Nat × Snap, x ∈ (if memOp o.op then (i, Snap.re o v) :: s.snaps else s.snaps) → ∀ id, x.2 = .blk id → x ∈ s.snaps := by
       intro x hx id hid
       split at hx
       ·rcases List.mem_cons.1 hx with rfl | hx
        ·cases hid
        ·exact hx
       ·exact hx
      refine fin v _ rfl rfl (Nat.le_refl _) h.rel h.fr (fun _ _ hB => hB) (.read v ((hwsame v).trans hw) hread hexs (hslot v) (fun hm => by simp [hm]) hnin hnsu) (fun x hx => by simp only; split <;> simp [hx]) (fun _ he => he) (fun _ he => .inl he) h.insN (fun _ hq => hq) (fun _ _ hq => .inl hq) (hsuokA _ rfl rfl (Nat.le_refl _) hdn1 (fun m r hc => (hsus m r hc).2) fun _ hl => hl)
       (fun j k id hj hk => h.snB j k id (hblk _ hj id rfl) (hblk _ hk id rfl)) (fun j id hj => h.snL j id (hblk _ hj id rfl)) (fun j id m r hj hq => h.snS j id m r (hblk _ hj id rfl) hq)
     ·cases hs
theorem J.chain (h : J P F ops fl A0 w0 ρ0 dfr ρ l a w s) (D : DrawOk ops) (G : Good P) {W0 : World} (hF : FOk P W0 F) (hb0 : Base W0 ρ0 A0 w0) {i : Nat} {o : Oper} (ho : ops[i]? = some o) (hi : s.done.testBit i = false) (he : ∀ e ∈ o.after, Region.binds .any e = true → isD l e.on)
  {s1 : DS} (hs : stepChain P F ops (ancs ops) i o s = some s1) {Q : Exit → Act → World → Prop} {K : Act → World → Prop} (hK : ∀ ρ1 a1 w1, J P F ops fl A0 w0 ρ0 dfr ρ1 (l.setIfInBounds i true) a1 w1 s1 → K a1 w1) : wpOp P ops Q i K a w := by
 have hnD : ¬ isD l i := fun hc => by have := h.sub i hc; rw [hi] at this; cases this
 have hisz : i < ops.size := by
  rcases Nat.lt_or_ge i ops.size with h' | h'
  ·exact h'
  ·rw [Array.getElem?_eq_none h'] at ho; cases ho
 have hil : i < l.size := by rw [h.size]; exact hisz
 have hanc : ∀ k, (anc ops i).testBit k = true → isD l k := anc_of_edges D h.closedD i o ho he
 have hgood : ∀ k ∈ readT ops o, VR ρ (s.t.getD k undef) (a.tmps.getD k undef) := fun k hk => h.good D ho hnD he (fun hc => by rw [hi] at hc; cases hc) hk
 have hwant := vr_wanted (o := o) h.len fun k hk => hgood k (readT_guard hk)
 have hopnd : ∀ x ∈ o.op.operands, opndOk x = true → VR ρ (evL s.t x) (a.eval x) := fun x hx hox => vr_operand hox fun k hk => hgood k (readT_op (hk ▸ hx))
 have hnin : ∀ e ∈ s.ins, e.1 ≠ i := fun e he hc => by have := h.insI e he; rw [hc, hi] at this; cases this
 have hnsu : ∀ r, s.susp ≠ some (i, r) := fun r hc => by
  have := h.susp
  unfold SuspOk at this
  rw [hc] at this
  simp only at this
  rw [hi] at this
  exact absurd this.2.2.2.2.1 (by simp)
 have hset : ∀ j, isD (l.setIfInBounds i true) j ↔ isD l j ∨ i = j := fun j => isD_set hil
 have fin : ∀ (v v' : Value) (ρ1 : Ren) (w1 : World) (s1 : DS), s1.done = s.done ||| 2 ^ i → s1.t = putL s.t o.dst v → Rel ρ1 s1.A w1 → Fr ρ s.A w ρ1 s1.A w1 → VR ρ1 v v' → s1.snaps = s.snaps → s1.ins = s.ins → s1.susp = s.susp → (∀ m r, s.susp = some (m, r) → s.A.get r = none → s1.A.get r = none) →
   (∀ j p, ops[j]? = some p → s.done.testBit j = true → ¬ isD l j → (∀ v, readOp p.op = true → exA P F s.t p s.A = some (v, s.A) → (memOp p.op = true → (j, Snap.re p v) ∈ s.snaps) → exA P F s1.t p s1.A = some (v, s1.A)) ∧ (∀ id B, (j, Snap.blk id) ∈ s.snaps → s.A.get id = some B → s1.A.get id = some B)) →
   J P F ops fl A0 w0 ρ0 dfr ρ1 (l.setIfInBounds i true) (a.put o.dst v') w1 s1 := by
  intro v v' ρ1 w1 s1 e1 e2 hrel hf hv esn ein esu hg hkeep
  have hdone : ∀ j, s1.done.testBit j = true ↔ s.done.testBit j = true ∨ i = j := fun j => by rw [e1]; exact testBit_set _ _ _
  have hx := hf.ext h.rel
  have hpend : ∀ j, s1.done.testBit j = true → ¬ isD (l.setIfInBounds i true) j → s.done.testBit j = true ∧ ¬ isD l j := fun j hj hnd => by
   have h1 : ¬ isD l j := fun hc => hnd ((hset j).2 (.inl hc))
   rcases (hdone j).1 hj with hj | rfl
   ·exact ⟨hj, h1⟩
   ·exact absurd ((hset i).2 (.inr rfl)) hnd
  refine ⟨by simpa using h.size, fun j hj => ?_, fun j hj => ?_, fun j p hp hj hnd => ?_, fun j p hp hj e h1 h2 => ?_, fun j p hp hj e h1 h2 => ?_, hrel, h.fr.trans hf, by rw [defers_put]; exact h.defers, by rw [e2, length_put, size_put]; exact h.len, fun k hk => ?_, fun j p hp hj hnd => ?_, fun e he => ?_, by rw [ein]; exact h.insN, ?_, by rw [esn]; exact h.snB, fun j id hj => ?_, fun j id m r hj hq => ?_⟩
  ·rcases (hset j).1 hj with hj | rfl
   ·exact (hdone j).2 (.inl (h.sub j hj))
   ·exact (hdone _).2 (.inr rfl)
  ·rcases (hdone j).1 hj with hj | rfl
   ·exact h.lt j hj
   ·exact hisz
  ·obtain ⟨z1, z2⟩ := hpend j hj hnd
   exact h.pend j p hp z1 z2
  ·rcases (hset j).1 hj with hj | rfl
   ·exact (hset _).2 (.inl (h.closedD j p hp hj e h1 h2))
   ·rw [ho] at hp; cases hp; exact (hset _).2 (.inl (he e h1 h2))
  ·rcases (hdone j).1 hj with hj | rfl
   ·exact (hdone _).2 (.inl (h.closedS j p hp hj e h1 h2))
   ·rw [ho] at hp; cases hp; exact (hdone _).2 (.inl (h.sub _ (he e h1 h2)))
  ·rw [e2, getD_put, getD_tmps, h.len]
   by_cases hd : o.dst = some k ∧ k < a.tmps.size
   ·rw [if_pos hd, if_pos hd]; exact hv
   ·rw [if_neg hd, if_neg hd]
    exact (h.slots k fun j p hp hj hnd => hk j p hp ((hdone j).2 (.inl hj)) fun hc => by
     rcases (hset j).1 hc with hc | rfl
     ·exact hnd hc
     ·rw [hi] at hj; cases hj).mono hx
  ·obtain ⟨z1, z2⟩ := hpend j hj hnd
   have hap := h.apart D ho hi hp z1 (.inr ⟨hanc, z2⟩)
   obtain ⟨y1, y2⟩ := reads_same (t := s.t) (v := v) hap
   obtain ⟨k1, k2⟩ := hkeep j p hp z1 z2
   have hov := (h.pds j p hp z1 z2).over (s1 := s1) (by rw [e2, length_put]) (by rw [e2]; exact y1) (by rw [e2]; exact y2) (fun x hx => by rw [esn]; exact hx) (fun e he => by rw [ein]; exact he) (fun hc => by rw [ein]; exact hc) (fun q hq => by rw [esu]; exact hq) (fun hc => by rw [esu]; exact hc) hf.next k1 k2
   exact hov.ren fun id h1 h2 _ => (hf.ren id (h.snL j id (by rw [← esn]; exact h2))).trans h1
  ·rw [ein] at he
   exact (hdone _).2 (.inl (h.insI e he))
  ·refine SuspOk.list hil (h.susp.step hf h.rel esu ein hg fun j hj => (hdone j).2 (.inl hj)) (by rw [ein]; exact hnin) (by rw [esu]; exact hnsu)
  ·have := h.snL j id (by rw [← esn]; exact hj)
   have := hf.next
   omega
  ·exact h.snS j id m r (by rw [← esn]; exact hj) (by rw [← esu]; exact hq)
 unfold wpOp
 rw [ho]
 simp only
 rw [hwant]
 unfold stepChain at hs
 cases hw : wantedL ops s.t o with
 | false =>
  rw [hw] at hs
  simp only at hs
  cases hs
  simp only [Bool.false_eq_true, if_false]
  refine hK ρ _ w (fin undef undef ρ w _ rfl rfl h.rel (Fr.refl _ _ _) (VR.plain 9 _ (by rfl)) rfl rfl rfl (fun _ _ _ h => h) fun j p hp hj hnd => ⟨fun v hkr hex _ => ?_, fun _ _ _ hB => hB⟩)
  have hap := h.apart D ho hi hp hj (.inr ⟨hanc, hnd⟩)
  obtain ⟨y1, y2⟩ := reads_same (t := s.t) (v := undef) hap
  rw [← exA_congr (t := s.t) (fun x hx => evL_same fun k hk => (y1 k (readT_op (hk ▸ hx))).symm) (by simp [hkr])]
  exact hex
 | true =>
  rw [hw] at hs
  simp only at hs
  simp only [if_true]
  cases hex : exA P F s.t o s.A with
  | none => rw [hex] at hs; cases hs
  | some q =>
   obtain ⟨v, A'⟩ := q
   rw [hex] at hs
   simp only at hs
   split at hs
   ·rename_i hc
    rw [Bool.and_eq_true] at hc
    obtain ⟨hc1, hc2⟩ := hc
    cases hs
    refine .inl (exA_ok G hF hex h.rel (hb0.trans h.fr) hopnd fun ρ1 v' w1 hr1 hf1 hv1 => hK ρ1 _ w1 (fin v v' ρ1 w1 _ rfl rfl hr1 hf1 hv1 rfl rfl rfl (fun m r hsp _ => ?_) fun j p hp hj hnd => ?_))
    ·rw [hsp] at hc1
     simpa [stillOut] using hc1
    ·have hap := h.apart D ho hi hp hj (.inr ⟨hanc, hnd⟩)
     obtain ⟨y1, y2⟩ := reads_same (t := s.t) (v := v) hap
     rw [List.all_eq_true] at hc2
     have hno : (((ancs ops).getD i 0).testBit j) = false := by
      cases hb : ((ancs ops).getD i 0).testBit j with
      | false => rfl
      | true => exact absurd (hanc j hb) hnd
     refine ⟨fun u hkr hexu hm => ?_, fun id B hid hB => ?_⟩
     ·cases hmem : memOp p.op with
      | false =>
       have := exR_pure hkr hmem hexu A'
       rw [← exA_congr (t := s.t) (fun x hx => evL_same fun k hk => (y1 k (readT_op (hk ▸ hx))).symm) (by simp [hkr])]
       exact this
      | true =>
       have hk := hc2 _ (hm hmem)
       simp only [hno, Bool.false_or, keptS] at hk
       split at hk
       ·rename_i u2 A2 hex2
        rw [Bool.and_eq_true, Nat.beq_eq] at hk
        obtain ⟨rfl, _⟩ := exR_mono hkr hex2 hk.2
        rw [eqV_eq 9 _ _ hk.1]
        exact hex2
       ·cases hk
     ·have hk := hc2 _ hid
      simp only [hno, Bool.false_or, keptS] at hk
      rw [hB] at hk
      split at hk
      ·rename_i B1 C h1 h2
       cases h1
       rw [eqB_eq _ _ hk]
       exact h2
      ·cases hk
   ·cases hs
end
end Go.Proofs.YtpegcppeobndcaaGreatDoor.Abs
namespace Go.Proofs.YtpegcppeobndcaaGreatDoor.Abs
theorem Rel.fill {ρ : Ren} {A : AW} {w : World} (h : Rel ρ A w) {r : Nat} {L : Loc} (h1 : ρ r = some L) (h2 : A.get r = none) (hl : ¬ Live ρ A L.b) {es : List (Value × Value)} {es' : Array MapEntry} {clk : Nat} (hb : w.heap[L.b]? = some (.map es' clk)) (hm : MapR ρ es es'.toList) :
  Rel ρ (A.put r (some (.map es))) w ∧ ∀ k, Live ρ (A.put r (some (.map es))) k → Live ρ A k ∨ k = L.b := by
 have hg : ∀ j C, (A.put r (some (.map es))).get j = some C → j = r ∧ C = .map es ∨ j ≠ r ∧ A.get j = some C := fun j C e => by
  rw [AW.get_put] at e
  split at e
  ·rename_i hj; cases e; exact .inl ⟨hj, rfl⟩
  ·rename_i hj; exact .inr ⟨hj, e⟩
 have hne : ∀ j M C, ρ j = some M → A.get j = some C → solid C = true → M.b ≠ L.b := by
  intro j M C h3 h4 hs e
  cases hmu : mutB C with
  | true => exact hl ⟨j, M, C, h3, h4, hmu, e⟩
  | false =>
   have hbr := h.blk j M C h3 h4
   cases C with
   | cells c ro kd =>
    rcases hbr.2 with ⟨rfl, rfl⟩ | ⟨c', e', fr, hh, _⟩
    ·simp [solid] at hs
    ·rw [e, hb] at hh; cases hh
   | map es => cases hmu
   | iter s p => cases hmu
 refine ⟨⟨h.dom, fun j hj => ?_, fun j M C h3 h4 => ?_, fun j l M N C D hjl h3 h4 h5 h6 hc hd => ?_⟩, fun k ⟨j, M, C, h3, h4, h5, h6⟩ => ?_⟩
 ·have : j ≠ r := fun e => by have := h.dom r L h1; simp only [AW.next_put] at hj; omega
  rw [AW.get_put, if_neg this]
  exact h.fresh j hj
 ·rcases hg j C h4 with ⟨rfl, rfl⟩ | ⟨hj, h4'⟩
  ·rw [h1] at h3
   cases h3
   exact ⟨es', clk, hb, hm⟩
  ·exact h.blk j M C h3 h4'
 ·rcases hg j C h5 with ⟨rfl, rfl⟩ | ⟨hj, h5'⟩
  ·rcases hg l D h6 with ⟨e, _⟩ | ⟨hl2, h6'⟩
   ·exact absurd e.symm hjl
   ·rw [h1] at h3
    cases h3
    exact Ne.symm (hne l N D h4 h6' hd)
  ·rcases hg l D h6 with ⟨rfl, rfl⟩ | ⟨hl2, h6'⟩
   ·rw [h1] at h4
    cases h4
    exact hne j M C h3 h5' (mut_solid hc)
   ·exact h.sep j l M N C D hjl h3 h4 h5' h6' hc hd
 ·rcases hg j C h4 with ⟨rfl, _⟩ | ⟨hj, h4'⟩
  ·rw [h1] at h3
   cases h3
   exact .inr h6.symm
  ·exact .inl ⟨j, M, C, h3, h4', h5, h6⟩
theorem mem_enum {α : Type} : ∀ (l : List α) (k i : Nat) (x : α), (i, x) ∈ enum k l ↔ k ≤ i ∧ l[i - k]? = some x
 | [], k, i, x => by simp [enum]
 | y :: l, k, i, x => by
  simp only [enum, List.mem_cons, Prod.mk.injEq, mem_enum l (k + 1) i x]
  constructor
  ·rintro (⟨rfl, rfl⟩ | ⟨h1, h2⟩)
   ·simp
   ·refine ⟨by omega, ?_⟩
    rw [show i - k = (i - (k + 1)) + 1 by omega, List.getElem?_cons_succ]
    exact h2
  ·rintro ⟨h1, h2⟩
   rcases Nat.lt_or_ge k i with h3 | h3
   ·refine .inr ⟨h3, ?_⟩
    rw [show i - k = (i - (k + 1)) + 1 by omega, List.getElem?_cons_succ] at h2
    exact h2
   ·have : i = k := by omega
    subst this
    rw [Nat.sub_self, List.getElem?_cons_zero] at h2
    cases h2
    exact .inl ⟨rfl, rfl⟩
theorem mem_ready {ops : Array Oper} {d i : Nat} {o : Oper} : (i, o) ∈ readyA (enum 0 ops.toList) d ↔ ops[i]? = some o ∧ d.testBit i = false ∧ ∀ e ∈ o.after, Region.binds .any e = true → d.testBit e.on = true := by
 unfold readyA
 rw [List.mem_filter, mem_enum]
 simp only [Nat.zero_le, Nat.sub_zero, true_and, Array.getElem?_toList, Bool.and_eq_true, Bool.not_eq_true', List.all_eq_true, edgeOk, Bool.or_eq_true]
 constructor
 ·rintro ⟨h1, h2, h3⟩
  refine ⟨h1, h2, fun e he hb => ?_⟩
  rcases h3 e (by simpa using he) with h | h
  ·rw [hb] at h; cases h
  ·exact h
 ·rintro ⟨h1, h2, h3⟩
  refine ⟨h1, h2, fun e he => ?_⟩
  cases hb : Region.binds .any e with
  | false => exact .inl rfl
  | true => exact .inr (h3 e (by simpa using he) hb)
section
variable {P : Program} {F : CallF} {ops : Array Oper} {fl : Option Tmp} {A0 : AW} {w0 : World} {ρ0 : Ren} {dfr : List Deferred}
theorem step_ins {s s1 : DS} {i : Nat} {o : Oper} (h : stepFree P F ops fl i o s = some s1) : ∃ l, s1.ins = s.ins ++ l := by
 unfold stepFree at h
 split at h
 ·cases h; exact ⟨[], by simp⟩
 ·split at h
  ·split at h
   ·split at h
    ·split at h
     ·cases h; exact ⟨_, rfl⟩
     ·cases h
    ·cases h
   ·cases h
  ·split at h
   ·cases h
   ·split at h
    ·split at h
     ·cases h; exact ⟨[], by simp⟩
     ·cases h
     ·cases h; exact ⟨[], by simp⟩
    ·split at h
     ·cases h; exact ⟨[], by simp⟩
     ·cases h
theorem chain_ins {s s1 : DS} {an : List Nat} {i : Nat} {o : Oper} (h : stepChain P F ops an i o s = some s1) : s1.ins = s.ins := by
 unfold stepChain at h
 split at h
 ·cases h; rfl
 ·split at h
  ·split at h
   ·cases h; rfl
   ·cases h
  ·cases h
theorem draw_ins {lst : List (Nat × Oper)} {an : List Nat} {sN : DS} : ∀ (n : Nat) (s : DS), drawA P F ops lst an fl n s = some sN → ∃ l, sN.ins = s.ins ++ l := by
 intro n
 induction n with
 | zero =>
  intro s h
  unfold drawA at h
  split at h
  ·cases h; exact ⟨[], by simp⟩
  ·cases h
 | succ n ih =>
  intro s h
  unfold drawA at h
  split at h
  ·cases h; exact ⟨[], by simp⟩
  ·split at h
   ·split at h
    ·rename_i s1 h1
     obtain ⟨l1, e1⟩ := step_ins h1
     obtain ⟨l2, e2⟩ := ih s1 h
     exact ⟨l1 ++ l2, by rw [e2, e1, List.append_assoc]⟩
    ·cases h
   ·split at h
    ·split at h
     ·rename_i s1 h1
      obtain ⟨l2, e2⟩ := ih s1 h
      exact ⟨l2, by rw [e2, chain_ins h1]⟩
     ·cases h
    ·cases h
def Turn (P : Program) (F : CallF) (ops : Array Oper) (fl : Option Tmp) (s sN : DS) : Prop :=
 (∃ l, sN.ins = s.ins ++ l) ∧ ((readyA (enum 0 ops.toList) s.done = [] ∧ s = sN) ∨ ∃ i o s3 n3, readyA (enum 0 ops.toList) s.done = [(i, o)] ∧ stepChain P F ops (ancs ops) i o s = some s3 ∧ drawA P F ops (enum 0 ops.toList) (ancs ops) fl n3 s3 = some sN)
theorem J.sat (D : DrawOk ops) {sN : DS} {ρ : Ren} {l : Array Bool} {a : Act} {w : World} : ∀ (n : Nat) (s : DS), J P F ops fl A0 w0 ρ0 dfr ρ l a w s → drawA P F ops (enum 0 ops.toList) (ancs ops) fl n s = some sN → ∃ s2, J P F ops fl A0 w0 ρ0 dfr ρ l a w s2 ∧ Turn P F ops fl s2 sN := by
 intro n
 induction n with
 | zero =>
  intro s h hd
  have hi := draw_ins 0 s hd
  unfold drawA at hd
  split at hd
  ·rename_i he
   cases hd
   exact ⟨sN, h, hi, .inl ⟨List.isEmpty_iff.1 he, rfl⟩⟩
  ·cases hd
 | succ n ih =>
  intro s h hd
  have hi := draw_ins (n + 1) s hd
  unfold drawA at hd
  split at hd
  ·rename_i he
   cases hd
   exact ⟨sN, h, hi, .inl ⟨he, rfl⟩⟩
  ·rename_i i o rest he
   split at hd
   ·rename_i j p hf
    split at hd
    ·rename_i s1 h1
     have hk := List.find?_some hf
     have hm := List.mem_of_find?_eq_some hf
     rw [← he, mem_ready] at hm
     exact ih s1 (h.free D hm.1 hm.2.1 hm.2.2 hk h1) hd
    ·cases hd
   ·split at hd
    ·split at hd
     ·rename_i s1 h1
      exact ⟨s, h, hi, .inr ⟨i, o, s1, n, he, h1, hd⟩⟩
     ·cases hd
    ·cases hd
def cnt (l : Array Bool) : Nat := l.toList.countP (fun b => !b)
theorem countP_set {l : List Bool} {i : Nat} (hi : i < l.length) (h : l[i] = false) : (l.set i true).countP (fun b => !b) + 1 = l.countP (fun b => !b) := by
 induction l generalizing i with
 | nil => simp at hi
 | cons b l ih =>
  cases i with
  | zero => simp at h; subst h; simp
  | succ i =>
   simp at h hi
   have := ih hi h
   simp [List.countP_cons]
   omega
theorem cnt_set {l : Array Bool} {i : Nat} (hi : i < l.size) (h : ¬ isD l i) : cnt (l.setIfInBounds i true) + 1 = cnt l := by
 unfold cnt
 simp only [Array.toList_setIfInBounds]
 refine countP_set (by simpa using hi) ?_
 unfold isD at h
 rw [Array.getD_eq_getD_getElem?, Array.getElem?_eq_getElem hi] at h
 simpa using h
theorem cnt_zero {l : Array Bool} (h : cnt l = 0) {i : Nat} (hi : i < l.size) : isD l i := by
 unfold cnt at h
 rw [List.countP_eq_zero] at h
 have := h l[i] (by simp)
 unfold isD
 rw [Array.getD_eq_getD_getElem?, Array.getElem?_eq_getElem hi]
 simpa using this
theorem ready_mem {l : Array Bool} {i : Nat} (hl : l.size = ops.size) : i ∈ Region.ready .any ops l ↔ ∃ o, ops[i]? = some o ∧ ¬ isD l i ∧ ∀ e ∈ o.after, Region.binds .any e = true → isD l e.on := by
 unfold Region.ready
 rw [List.mem_filter]
 simp only [List.mem_range, Bool.and_eq_true, Bool.not_eq_true']
 constructor
 ·rintro ⟨h1, h2, h3⟩
  rw [Array.getElem?_eq_getElem h1] at h3
  simp only [Option.map_some, Option.getD_some] at h3
  rw [Array.all_eq_true'] at h3
  refine ⟨ops[i], Array.getElem?_eq_getElem h1, ?_, fun e he hb => ?_⟩
  ·unfold isD
   rw [Array.getD_eq_getD_getElem?, Array.getElem?_eq_getElem (by omega)] at h2 ⊢
   simpa using h2
  ·have := h3 e he
   rw [hb] at this
   simpa [isD] using this
 ·rintro ⟨o, h1, h2, h3⟩
  have hi : i < ops.size := by
   rcases Nat.lt_or_ge i ops.size with h' | h'
   ·exact h'
   ·rw [Array.getElem?_eq_none h'] at h1; cases h1
  refine ⟨hi, ?_, ?_⟩
  ·unfold isD at h2
   rw [Array.getD_eq_getD_getElem?, Array.getElem?_eq_getElem (by omega)] at h2 ⊢
   simpa using h2
  ·rw [h1]
   simp only [Option.map_some, Option.getD_some]
   rw [Array.all_eq_true']
   intro e he
   cases hb : Region.binds .any e with
   | false => rfl
   | true => simpa [isD] using h3 e he hb
theorem all_of_ready (D : DrawOk ops) {l : Array Bool} (hl : l.size = ops.size) (hr : Region.ready .any ops l = []) : ∀ i, i < ops.size → isD l i := by
 intro i
 induction i using Nat.strongRecOn with
 | _ i ih =>
  intro hi
  by_cases h : isD l i
  ·exact h
  ·exfalso
   have : i ∈ Region.ready .any ops l := (ready_mem hl).2 ⟨ops[i], Array.getElem?_eq_getElem hi, h, fun e he hb => ih e.on (D.back i ops[i] (Array.getElem?_eq_getElem hi) e he hb) (by have := D.back i ops[i] (Array.getElem?_eq_getElem hi) e he hb; omega)⟩
   rw [hr] at this
   cases this
theorem fillA_spec {kt : TypeId} : ∀ (l : List (Value × Value)), fillA P kt l = true → (∀ e ∈ l, keyFine P kt e.1 false = true) ∧ l.Pairwise fun e f => keyTest P kt e.1 f.1 = some false ∧ keyTest P kt f.1 e.1 = some false
 | [], _ => ⟨(fun _ h => by cases h), .nil⟩
 | e :: l, h => by
  simp only [fillA, Bool.and_eq_true, List.all_eq_true, decide_eq_true_eq] at h
  obtain ⟨⟨h1, h2⟩, h3⟩ := h
  obtain ⟨k1, k2⟩ := fillA_spec l h3
  refine ⟨fun f hf => ?_, .cons h2 k2⟩
  rcases List.mem_cons.1 hf with rfl | hf
  ·exact h1
  ·exact k1 f hf
theorem pair_mem {α : Type} {R : α → α → Prop} : ∀ (l : List α), l.Pairwise R → (∀ a b, R a b → R b a) → ∀ a ∈ l, ∀ b ∈ l, a ≠ b → R a b
 | [], _, _, _, h, _, _, _ => by cases h
 | x :: l, hp, hs, a, ha, b, hb, hne => by
  rw [List.pairwise_cons] at hp
  rcases List.mem_cons.1 ha with e1 | ha
  ·rcases List.mem_cons.1 hb with e2 | hb
   ·exact absurd (e1.trans e2.symm) hne
   ·rw [e1]; exact hp.1 b hb
  ·rcases List.mem_cons.1 hb with e2 | hb
   ·rw [e2]; exact hs _ _ (hp.1 a ha)
   ·exact pair_mem l hp.2 hs a ha b hb hne
theorem end_pw {s sN : DS} {t1 : TV} {A1 : AW} (he : endA P ops sN = some (t1, A1)) (hi : ∃ l, sN.ins = s.ins ++ l) : s.ins ≠ [] →
  ∃ kt et ty, insType ops.toList = some ty ∧ P.underlying ty = some (.map kt et) ∧ (∀ e ∈ s.ins, keyFine P kt e.2.1 false = true) ∧ ∀ e ∈ s.ins, ∀ f ∈ s.ins, e.1 ≠ f.1 → keyTest P kt e.2.1 f.2.1 = some false := by
 intro hne
 obtain ⟨l', hl'⟩ := hi
 unfold endA at he
 split at he
 ·rename_i h1 h2
  rw [hl'] at h2
  simp at h2
  exact absurd h2.1 hne
 ·rename_i mi r li h1
  split at he
  ·rename_i kt et hk
   split at he
   ·rename_i h3 h4
    cases hty : insType ops.toList with
    | none => rw [hty] at hk; cases hk
    | some ty =>
     rw [hty, Option.bind_some] at hk
     obtain ⟨k1, k2⟩ := fillA_spec _ h3
     rw [List.pairwise_map] at k2
     have hsub : ∀ e ∈ s.ins, e ∈ sN.ins := fun e he => by rw [hl']; simp [he]
     refine ⟨kt, et, ty, rfl, hk, fun e he => k1 e.2 (List.mem_map.2 ⟨e, hsub e he, rfl⟩), fun e he f hf hef => ?_⟩
     exact (pair_mem _ k2 (fun _ _ h => ⟨h.2, h.1⟩) e (hsub e he) f (hsub f hf) fun hc => hef (by rw [hc])).1
   ·cases he
  ·cases he
 ·cases he
theorem J.fin {ρ : Ren} {l : Array Bool} {a : Act} {w : World} {s : DS} (h : J P F ops fl A0 w0 ρ0 dfr ρ l a w s) (hall : ∀ i, i < ops.size → isD l i) {t1 : TV} {A1 : AW} (he : endA P ops s = some (t1, A1)) :
  Rel ρ A1 w ∧ Fr ρ0 A0 w0 ρ A1 w ∧ TR ρ t1 a.tmps.toList ∧ a.defers = dfr := by
 have hd : ∀ i, s.done.testBit i = true → isD l i := fun i hi => hall i (h.lt i hi)
 have hLR : TR ρ s.t a.tmps.toList := TR.of h.len fun j => h.slots j fun i o _ hi hnd => absurd (hd i hi) hnd
 unfold endA at he
 split at he
 ·cases he
  exact ⟨h.rel, h.fr, hLR, h.defers⟩
 ·rename_i mi r hsp
  split at he
  ·split at he
   ·rename_i h3 h4
    cases he
    have hq := h.susp
    unfold SuspOk at hq
    rw [hsp] at hq
    simp only at hq
    obtain ⟨h1, h2, h5, h6, h7, h8, h9⟩ := hq
    obtain ⟨L, es', clk, q1, q2, q3, q4, q5, q6⟩ := h9 (hd mi h7)
    have hins : insD l s.ins = s.ins.map (·.2) := by
     unfold insD
     rw [List.filter_eq_self.2]
     intro e he
     exact hd e.1 (h.insI e he)
    rw [hins] at q6
    obtain ⟨r1, r2⟩ := h.rel.fill q1 h2 q4 q5 q6
    refine ⟨r1, ⟨h.fr.ren, h.fr.next, h.fr.os, h.fr.tape, h.fr.output, h.fr.size, fun k hk hl => ?_⟩, hLR, h.defers⟩
    obtain ⟨z1, z2⟩ := h.fr.keep k hk hl
    refine ⟨z1, fun hc => ?_⟩
    rcases r2 k hc with hc | rfl
    ·exact z2 hc
    ·omega
   ·cases he
  ·cases he
 ·cases he
theorem draw_main (D : DrawOk ops) (G : Good P) {W0 : World} (hF : FOk P W0 F) (hb0 : Base W0 ρ0 A0 w0) (hr0 : Rel ρ0 A0 w0) {sN : DS} {t1 : TV} {A1 : AW} (hend : endA P ops sN = some (t1, A1)) {Q : Exit → Act → World → Prop}
  (hQ : ∀ ρ1 a1 w1, Rel ρ1 A1 w1 → Fr ρ0 A0 w0 ρ1 A1 w1 → TR ρ1 t1 a1.tmps.toList → a1.defers = dfr → Q .normal a1 w1) :
  ∀ (n : Nat) (l : Array Bool) (a : Act) (w : World) (ρ : Ren) (s : DS), J P F ops fl A0 w0 ρ0 dfr ρ l a w s → Turn P F ops fl s sN → cnt l ≤ n → wpAny P .any ops Q n l a w := by
 have fin : ∀ (l : Array Bool) (a : Act) (w : World) (ρ : Ren) (s : DS), J P F ops fl A0 w0 ρ0 dfr ρ l a w s → Turn P F ops fl s sN → Region.ready .any ops l = [] → Q .normal a w := by
  intro l a w ρ s h ht hr
  have hall := all_of_ready D h.size hr
  have hs : s = sN := by
   rcases ht.2 with ⟨_, rfl⟩ | ⟨i, o, s3, n3, h1, _, _⟩
   ·rfl
   ·exfalso
    have hm : (i, o) ∈ readyA (enum 0 ops.toList) s.done := by rw [h1]; simp
    rw [mem_ready] at hm
    have hi : i < ops.size := by
     rcases Nat.lt_or_ge i ops.size with h' | h'
     ·exact h'
     ·rw [Array.getElem?_eq_none h'] at hm; exact absurd hm.1 (by simp)
    have := h.sub i (hall i hi)
    rw [hm.2.1] at this
    cases this
  subst hs
  obtain ⟨h1, h2, h3, h4⟩ := h.fin hall hend
  exact hQ ρ a w h1 h2 h3 h4
 intro n
 induction n with
 | zero =>
  intro l a w ρ s h ht hc
  have hr : Region.ready .any ops l = [] := by
   rw [List.eq_nil_iff_forall_not_mem]
   intro i hi
   obtain ⟨o, h1, h2, _⟩ := (ready_mem h.size).1 hi
   have : i < ops.size := by
    rcases Nat.lt_or_ge i ops.size with h' | h'
    ·exact h'
    ·rw [Array.getElem?_eq_none h'] at h1; cases h1
   exact h2 (cnt_zero (by omega) (by rw [h.size]; exact this))
  exact ⟨hr, fin l a w ρ s h ht hr⟩
 | succ n ih =>
  intro l a w ρ s h ht hc
  refine ⟨fin l a w ρ s h ht, fun i hi => ?_⟩
  obtain ⟨o, h1, h2, h3⟩ := (ready_mem h.size).1 hi
  have hil : i < l.size := by
   rw [h.size]
   rcases Nat.lt_or_ge i ops.size with h' | h'
   ·exact h'
   ·rw [Array.getElem?_eq_none h'] at h1; cases h1
  have hcn : cnt (l.setIfInBounds i true) ≤ n := by have := cnt_set hil h2; omega
  cases hb : s.done.testBit i with
  | true => exact h.exec D hr0 h1 h2 h3 hb (end_pw hend ht.1) (fun ρ1 a1 w1 hj => ih _ a1 w1 ρ1 s hj ht hcn) G hF hb0
  | false =>
   have hm : (i, o) ∈ readyA (enum 0 ops.toList) s.done := mem_ready.2 ⟨h1, hb, fun e he hbe => h.sub _ (h3 e he hbe)⟩
   rcases ht.2 with ⟨h4, _⟩ | ⟨i', o', s3, n3, h4, h5, h6⟩
   ·rw [h4] at hm; cases hm
   ·rw [h4, List.mem_singleton] at hm
    cases hm
    exact h.chain D G hF hb0 h1 hb h3 h5 fun ρ1 a1 w1 hj => by
     obtain ⟨s4, k1, k2⟩ := J.sat D n3 s3 hj h6
     exact ih _ a1 w1 ρ1 s4 k1 k2 hcn
end
theorem draw_ok {P : Program} (G : Good P) {F : CallF} {W0 : World} (hF : FOk P W0 F) {id : Nat} {ops : Array Oper} (hD : drawOk ops = true) {t t1 : TV} {A A1 : AW} {s : DS}
  (h1 : drawA P F ops (enum 0 ops.toList) (ancs ops) (fills ops.toList) ops.size { done := 0, t, A, snaps := [], ins := [], susp := none } = some s) (h2 : endA P ops s = some (t1, A1))
  {ρ : Ren} {w : World} {a : Act} (hr : Rel ρ A w) (hb0 : Base W0 ρ A w) (ht : TR ρ t a.tmps.toList) {Q : Exit → Act → World → Prop}
  (hQ : ∀ ρ1 a1 w1, Rel ρ1 A1 w1 → Fr ρ A w ρ1 A1 w1 → TR ρ1 t1 a1.tmps.toList → a1.defers = a.defers → Q .normal a1 w1) : (Code.region id ops true).wp P Q a w := by
 have D := drawOk_spec hD
 refine wp_region_any G.mixed ?_
 have hr' : Rel ρ A { w with drawn := w.drawn + 1 } := hr.of_heap rfl
 have hnd : ∀ i, ¬ isD (Array.replicate ops.size false) i := fun i hc => by
  unfold isD at hc
  rw [Array.getD_eq_getD_getElem?, Array.getElem?_replicate] at hc
  split at hc <;> simp at hc
 have hJ : J P F ops (fills ops.toList) A { w with drawn := w.drawn + 1 } ρ a.defers ρ (Array.replicate ops.size false) a { w with drawn := w.drawn + 1 } { done := 0, t, A, snaps := [], ins := [], susp := none } := by
  refine ⟨by simp, fun i hc => absurd hc (hnd i), fun i hc => by simp at hc, fun i o _ hc => by simp at hc, fun j o _ hc => absurd hc (hnd j), fun j o _ hc => by simp at hc, hr', Fr.refl _ _ _, rfl, by simpa using ht.length, fun k _ => ?_, fun i o _ hc => by simp at hc, fun e he => (by cases he), .nil, rfl, fun i j id hi => (by cases hi), fun i id hi => (by cases hi), fun i id m r hi => (by cases hi)⟩
  exact ht.get k
 obtain ⟨s2, k1, k2⟩ := J.sat D _ _ hJ h1
 have hb1 : Base W0 ρ A { w with drawn := w.drawn + 1 } := ⟨hb0.ren, hb0.next, hb0.os, hb0.tape, hb0.output, hb0.size, hb0.keep⟩
 refine draw_main D G hF hb1 hr' h2 (fun ρ1 a1 w1 z1 z2 z3 z4 => hQ ρ1 a1 w1 z1 ⟨z2.ren, z2.next, z2.os, z2.tape, z2.output, z2.size, z2.keep⟩ z3 z4) ops.size _ _ _ ρ s2 k1 k2 ?_
 unfold cnt
 refine Nat.le_trans (List.countP_le_length) (by simp)
end Go.Proofs.YtpegcppeobndcaaGreatDoor.Abs
namespace Go.Proofs.YtpegcppeobndcaaGreatDoor.Abs
def codeOk : Code → Bool
 | .region _ ops true => drawOk ops
 | .seq a b => codeOk a && codeOk b
 | .cond _ a b => codeOk a && codeOk b
 | .block _ b => codeOk b
 | .loop b => codeOk b
 | .scope b => codeOk b
 | _ => true
def exitOf : AExit → Exit
 | .normal => .normal
 | .exit id => .exit id
 | .ret => .ret
def OOk (P : Program) (W0 : World) (O : Orac) : Prop := ∀ (f : FuncId) (g : Array Value → AW → Option (Value × AW)), O f = some g → ∀ (args : Array Value) (A : AW) (v : Value) (A1 : AW), g args A = some (v, A1) → ∀ (ρ : Ren) (w : World) (args' : Array Value), AR ρ args args' → Rel ρ A w → Base W0 ρ A w →
 Calls P f args' w (fun e w1 => ∃ ρ1 v', e = .returned v' ∧ Rel ρ1 A1 w1 ∧ Fr ρ A w ρ1 A1 w1 ∧ VR ρ1 v v')
def Drawn (P : Program) : Prop := ∀ (f : Nat) (fn : Func) (b : Code), P.funcs[f]? = some fn → fn.body = some b → codeOk b = true
theorem vr_getD {ρ : Ren} {t : TV} {a : Act} (ht : TR ρ t a.tmps.toList) (k : Nat) : VR ρ (t.getD k undef) (a.tmps.getD k undef) := ht.get k
theorem lr_put {ρ : Ren} {t : TV} {a : Act} (ht : TR ρ t a.tmps.toList) (d : Option Tmp) {v v' : Value} (hv : VR ρ v v') : TR ρ (putL t d v) (a.put d v').tmps.toList := by
 have hl : t.length = a.tmps.size := by simpa using ht.length
 refine ⟨by rw [length_put, Array.length_toList, size_put, hl], fun k => ?_⟩
 rw [List.getD_eq_getElem?_getD, Array.getElem?_toList, ← Array.getD_eq_getD_getElem?, getD_put, getD_tmps, hl]
 split
 ·exact hv
 ·exact ht.get k
theorem lr_getD {ρ : Ren} {l l' : List Value} (h : LR ρ l l') (k : Nat) : VR ρ (l.getD k undef) (l'.getD k undef) := by
 rw [List.getD_eq_getElem?_getD, List.getD_eq_getElem?_getD]
 rcases Nat.lt_or_ge k l.length with hk | hk
 ·have hk' : k < l'.length := by rw [← h.length]; exact hk
  rw [List.getElem?_eq_getElem hk, List.getElem?_eq_getElem hk']
  exact h.get k hk hk'
 ·rw [List.getElem?_eq_none hk, List.getElem?_eq_none (by rw [← h.length]; exact hk)]
  exact VR.plain 9 _ (by rfl)
theorem ofL_get : ∀ (l : List Value) (i : Nat) (t : T Value) (k : Nat), (ofL i l t).get k = if i ≤ k ∧ k - i < l.length then l[k - i]? else t.get k
 | [], i, t, k => by rw [ofL, if_neg (fun h => Nat.not_lt_zero _ h.2)]
 | v :: l, i, t, k => by
  rw [ofL, ofL_get l (i + 1), T.get_set (i + 1) t i (some v) k (Nat.lt_succ_self i)]
  by_cases h1 : k = i
  ·subst h1
   rw [if_neg (by omega), if_pos rfl, if_pos ⟨Nat.le_refl _, by rw [Nat.sub_self, List.length_cons]; exact Nat.succ_pos _⟩, Nat.sub_self]
   rfl
  ·by_cases h2 : i + 1 ≤ k ∧ k - (i + 1) < l.length
   ·rw [if_pos h2, if_pos ⟨by omega, by rw [List.length_cons]; omega⟩, show k - i = (k - (i + 1)) + 1 by omega, List.getElem?_cons_succ]
   ·rw [if_neg h2, if_neg h1, if_neg (by rw [List.length_cons]; omega)]
theorem start_getD (n : Nat) (l : List Value) (k : Nat) : (TV.start n l).getD k undef = l.getD k undef := by
 have h := tv_get (TV.start n l) k
 have hlen : (TV.start n l).length = l.length + (n - l.length) := rfl
 have ho := ofL_get l 0 .leaf k
 rw [List.getD_eq_getElem?_getD]
 by_cases hk : k < l.length
 ·rw [if_pos ⟨Nat.zero_le _, by omega⟩, Nat.sub_zero, List.getElem?_eq_getElem hk] at ho
  rw [List.getElem?_eq_getElem hk]
  unfold TV.getD TV.get?
  have hb : Nat.ble (TV.start n l).n k = false := by
   cases hc : Nat.ble (TV.start n l).n k with
   | false => rfl
   | true => exact absurd (Nat.le_of_ble_eq_true hc) (by show ¬ l.length + (n - l.length) ≤ k; omega)
  simp only [hb]
  show (match (match (ofL 0 l T.leaf).get k with | some v => some v | none => some undef) with | some v => v | none => undef) = _
  rw [ho]
  rfl
 ·rw [List.getElem?_eq_none (by omega)]
  rw [if_neg (by omega)] at ho
  unfold TV.getD TV.get?
  cases Nat.ble (TV.start n l).n k with
  | true => rfl
  | false =>
   show (match (match (ofL 0 l T.leaf).get k with | some v => some v | none => some undef) with | some v => v | none => undef) = _
   rw [ho]
   rfl
theorem start_tr {ρ : Ren} {args args' : Array Value} (ha : AR ρ args args') (n : Nat) : TR ρ (TV.start n args.toList) (args' ++ Array.replicate (n - args'.size) undef).toList := by
 have hs := ha.size
 refine ⟨?_, fun k => ?_⟩
 ·show args.toList.length + (n - args.toList.length) = _
  simp [hs]
 ·have hlr : LR ρ (args.toList ++ List.replicate (n - args.size) undef) (args' ++ Array.replicate (n - args'.size) undef).toList := by
   rw [Array.toList_append, Array.toList_replicate, ← ha.size]
   exact LR.append ha (LR.replicate (VR.plain 9 _ (by rfl)) _)
  have h1 := lr_getD hlr k
  rw [start_getD]
  have e : (args.toList ++ List.replicate (n - args.size) undef).getD k undef = args.toList.getD k undef := by
   rw [List.getD_eq_getElem?_getD, List.getD_eq_getElem?_getD]
   rcases Nat.lt_or_ge k args.toList.length with hk | hk
   ·rw [List.getElem?_append_left hk]
   ·rw [List.getElem?_append_right hk, List.getElem?_eq_none hk, List.getElem?_replicate]
    split <;> rfl
  rw [e] at h1
  exact h1
section
variable {P : Program} {W0 : World} {F : CallF}
theorem ops_ok (G : Good P) (hF : FOk P W0 F) {ops : Array Oper} {t1 : TV} {A1 : AW} : ∀ (os : List Oper) (t : TV) (A : AW), opsA P F ops os t A = some (t1, A1) → ∀ (ρ : Ren) (w : World) (a : Act), Rel ρ A w → Base W0 ρ A w → TR ρ t a.tmps.toList →
  ∀ Q : Exit → Act → World → Prop, (∀ ρ1 a1 w1, Rel ρ1 A1 w1 → Fr ρ A w ρ1 A1 w1 → TR ρ1 t1 a1.tmps.toList → a1.defers = a.defers → Q .normal a1 w1) → wpList P ops Q os a w
 | [], t, A, he, ρ, w, a, hr, hb, ht, Q, hQ => by
  cases he
  exact hQ ρ a w hr (Fr.refl _ _ _) ht rfl
 | o :: os, t, A, he, ρ, w, a, hr, hb, ht, Q, hQ => by
  have hw := vr_wanted (ops := ops) (o := o) (by simpa using ht.length) fun k _ => vr_getD ht k
  unfold wpList
  rw [hw]
  unfold opsA at he
  cases hwt : wantedL ops t o with
  | false =>
   rw [hwt] at he
   simp only at he
   simp only [Bool.false_eq_true, if_false]
   exact ops_ok G hF os _ A he ρ w _ hr hb (lr_put ht _ (VR.plain 9 _ (by rfl))) Q fun ρ1 a1 w1 h1 h2 h3 h4 => hQ ρ1 a1 w1 h1 h2 h3 (h4.trans defers_put)
  | true =>
   rw [hwt] at he
   simp only at he
   simp only [if_true]
   cases hex : exA P F t o A with
   | none => rw [hex] at he; cases he
   | some q =>
    obtain ⟨v, A2⟩ := q
    rw [hex] at he
    simp only at he
    refine .inl (exA_ok G hF hex hr hb (fun x _ hx => vr_operand hx fun k _ => vr_getD ht k) fun ρ1 v' w1 h1 h2 h3 => ?_)
    have hx := h2.ext hr
    exact ops_ok G hF os _ A2 he ρ1 w1 _ h1 (hb.trans h2) (lr_put (ht.mono hx) _ h3) Q fun ρ2 a2 w2 k1 k2 k3 k4 => hQ ρ2 a2 w2 k1 (h2.trans k2) k3 (k4.trans defers_put)
end
def RS (P : Program) (A : AW) (w : World) {α β : Type} (R : α → β → Prop) (s : Sem α) (s' : Sem β) : Prop := ∀ x A1, runA P s A = some (x, A1) → A1 = A ∧ ∃ x', s'.run P w = .ok x' w ∧ R x x'
theorem rs_bind {P : Program} {A : AW} {w : World} {α β γ δ : Type} {R : α → β → Prop} {R2 : γ → δ → Prop} {s : Sem α} {s' : Sem β} {f : α → Sem γ} {f' : β → Sem δ} (h : RS P A w R s s') (k : ∀ x x', R x x' → RS P A w R2 (f x) (f' x')) : RS P A w R2 (s >>= f) (s' >>= f') := by
 intro y A1 e
 change runA P (s.bind f) A = _ at e
 rw [runA_bind] at e
 cases hs : runA P s A with
 | none => rw [hs] at e; cases e
 | some p =>
  obtain ⟨x, A'⟩ := p
  rw [hs] at e
  obtain ⟨rfl, x', h1, h2⟩ := h x A' hs
  obtain ⟨rfl, y', k1, k2⟩ := k x x' h2 y A1 e
  refine ⟨rfl, y', ?_, k2⟩
  change (s'.bind f').run P w = _
  rw [Sem.run_bind' P s' f' w, h1]
  exact k1
theorem rs_ret {P : Program} {A : AW} {w : World} {α β : Type} {R : α → β → Prop} {x : α} {x' : β} (h : R x x') : RS P A w R (pure x : Sem α) (pure x' : Sem β) := fun y A1 e => by cases e; exact ⟨rfl, x', rfl, h⟩
theorem rs_pu {P : Program} {A : AW} {w : World} {α : Type} {s : Sem α} (h : Pu P s) : RS P A w (fun x y => x = y) s s := by
 intro x A1 e
 rcases h with ⟨y, h1, h2⟩ | h
 ·rw [h2] at e; cases e; exact ⟨rfl, _, h1 w, rfl⟩
 ·rw [h] at e; cases e
theorem rs_vain {P : Program} {A : AW} {w : World} {α β : Type} {R : α → β → Prop} {s : Sem α} {s' : Sem β} (h : ∀ A, runA P s A = none) : RS P A w R s s' := fun x A1 e => by rw [h] at e; cases e
theorem rs_load {P : Program} {ρ : Ren} {A : AW} {w : World} (hr : Rel ρ A w) {a a' : Addr} (h : PR ρ a a') : RS P A w (VR ρ) (load a) (load a') := by
 intro x A1 e
 simp only [Go.load, runA] at e
 cases hc : A.cell? a with
 | none => rw [hc] at e; cases e
 | some v =>
  rw [hc] at e
  cases e
  obtain ⟨v', h1, h2⟩ := hr.cell h hc
  exact ⟨rfl, v', by simp [Go.load, Sem.run, h1], h2⟩
theorem rs_loadCellsFrom {P : Program} {ρ : Ren} {A : AW} {w : World} (hr : Rel ρ A w) {a a' : Addr} (h : PR ρ a a') : ∀ (n i : Nat) (acc acc' : Array Value), AR ρ acc acc' → RS P A w (AR ρ) (loadCellsFrom a i n acc) (loadCellsFrom a' i n acc')
 | 0, i, acc, acc', k => rs_ret k
 | n + 1, i, acc, acc', k => rs_bind (rs_load hr (h.add i)) fun v v' hv => rs_loadCellsFrom hr h n (i + 1) _ _ (k.push hv)
theorem rs_loadVar {P : Program} {ρ : Ren} {A : AW} {w : World} (hr : Rel ρ A w) (t : TypeId) {a a' : Addr} (h : PR ρ a a') : RS P A w (VR ρ) (loadVar t a) (loadVar t a') := by
 refine rs_bind (rs_pu (pu_isAgg t)) ?_
 rintro b _ rfl
 cases b with
 | true =>
  refine rs_bind (rs_pu (pu_sizeOf t)) ?_
  rintro n _ rfl
  exact rs_bind (rs_loadCellsFrom hr h n 0 _ _ .nil) fun c c' hc => rs_ret (VR.aggL hc)
 | false => exact rs_load hr h
theorem rs_asAddr {P : Program} {ρ : Ren} {A : AW} {w : World} {v v' : Value} (h : VR ρ v v') : RS P A w (PR ρ) (asAddr v) (asAddr v') := by
 cases h with
 | ptr h => exact rs_ret ⟨_, h, rfl, rfl⟩
 | pnil => exact rs_vain fun A => runA_panic (α := Addr) .nilDeref A
 | _ => exact rs_vain fun _ => rfl
theorem res_ok {P : Program} {ρ : Ren} {A : AW} {w : World} {t : TV} {a : Act} (hr : Rel ρ A w) (ht : TR ρ t a.tmps.toList) : ∀ (rs : List ResultVar) (vs : List Value), resA P t A rs = some vs →
  ∃ vs', (rs.mapM (fun r => match r with | .tmp k => pure (a.tmps.getD k undef) | .cell k ty => do loadVar ty (← asAddr (a.tmps.getD k undef)) : ResultVar → Sem Value)).run P w = .ok vs' w ∧ LR ρ vs vs'
 | [], vs, h => by cases h; exact ⟨[], rfl, .nil⟩
 | r :: rs, vs, h => by
  unfold resA at h
  simp only at h
  rw [List.mapM_cons]
  cases r with
  | tmp k =>
   simp only at h
   cases hrs : resA P t A rs with
   | none => rw [hrs] at h; cases h
   | some vs2 =>
    rw [hrs] at h
    cases h
    obtain ⟨vs', h1, h2⟩ := res_ok hr ht rs vs2 hrs
    exact ⟨_ :: vs', by simp only [Array.getD_eq_getD_getElem?] at h1 ⊢; simp [h1], .cons (vr_getD ht k) h2⟩
  | cell k ty =>
   simp only at h
   cases hrun : runA P (do loadVar ty (← asAddr (t.getD k undef)) : Sem Value) A with
   | none => rw [hrun] at h; cases h
   | some q =>
    obtain ⟨v, A2⟩ := q
    rw [hrun] at h
    simp only at h
    cases hrs : resA P t A rs with
    | none => rw [hrs] at h; cases h
    | some vs2 =>
     rw [hrs] at h
     cases h
     obtain ⟨vs', h1, h2⟩ := res_ok hr ht rs vs2 hrs
     have hs : RS P A w (VR ρ) (do loadVar ty (← asAddr (t.getD k undef)) : Sem Value) (do loadVar ty (← asAddr (a.tmps.getD k undef)) : Sem Value) := rs_bind (rs_asAddr (vr_getD ht k)) fun _ _ ha => rs_loadVar hr ty ha
     obtain ⟨_, v', k1, k2⟩ := hs v A2 hrun
     refine ⟨v' :: vs', ?_, .cons k2 h2⟩
     rw [Sem.run_bind, k1]
     simp only [Result.andThen, Sem.run_bind, h1]
     rfl
theorem results_ok {P : Program} {ρ : Ren} {A : AW} {w : World} {t : TV} {a : Act} (hr : Rel ρ A w) (ht : TR ρ t a.tmps.toList) (fn : Func) {vs : List Value} (h : resA P t A fn.results.toList = some vs) :
  ∃ v', (results fn a.tmps).run P w = .ok v' w ∧ VR ρ (oneOf vs) v' := by
 obtain ⟨vs', h1, h2⟩ := res_ok hr ht fn.results.toList vs h
 have hlen := h2.length
 have hrun : (results fn a.tmps).run P w = .ok (if h : vs'.toArray.size = 1 then vs'.toArray[0] else .tuple vs'.toArray) w := by
  unfold results
  rw [Array.mapM_eq_mapM_toList, Sem.run_bind]
  have : ((List.toArray <$> fn.results.toList.mapM (fun r => match r with | .tmp k => pure (a.tmps.getD k undef) | .cell k ty => do loadVar ty (← asAddr (a.tmps.getD k undef)) : ResultVar → Sem Value)) : Sem (Array Value)).run P w = .ok vs'.toArray w := by
   simp only [Array.getD_eq_getD_getElem?] at h1 ⊢
   simp [h1]
  refine Eq.trans (b := Result.andThen (Result.ok vs'.toArray w) _) (congrArg (fun r => Result.andThen r _) this) ?_
  rfl
 refine ⟨_, hrun, ?_⟩
 cases h2 with
 | nil => exact VR.tupleL .nil
 | cons hv t =>
  cases t with
  | nil => exact hv
  | cons hv2 t =>
   rw [dif_neg (by simp)]
   exact VR.tupleL (.cons hv (.cons hv2 t))
section
variable {P : Program} {W0 : World} {O : Orac}
def evFun (P : Program) (O : Orac) (n : Nat) : CallF := fun f args A => match O f with
 | some g => g args A
 | none => match P.funcs[f]? with
  | some fn => match fn.body with
   | some b => match evC P O n b (TV.start fn.ntmps args.toList) A with
    | some (.normal, t, A) | some (.ret, t, A) => match resA P t A fn.results.toList with
     | some vs => some (oneOf vs, A)
     | none => none
    | _ => none
   | none => none
  | none => none
def CodeOk (P : Program) (W0 : World) (O : Orac) (n : Nat) : Prop := ∀ (c : Code) (t : TV) (A : AW) (e : AExit) (t1 : TV) (A1 : AW), codeOk c = true → evC P O n c t A = some (e, t1, A1) →
 ∀ (ρ : Ren) (w : World) (a : Act), Rel ρ A w → Base W0 ρ A w → TR ρ t a.tmps.toList → a.defers = [] → ∀ Q : Exit → Act → World → Prop,
  (∀ ρ1 a1 w1, Rel ρ1 A1 w1 → Fr ρ A w ρ1 A1 w1 → TR ρ1 t1 a1.tmps.toList → a1.defers = [] → Q (exitOf e) a1 w1) → c.wp P Q a w
def LoopOk (P : Program) (W0 : World) (O : Orac) (n : Nat) : Prop := ∀ (b : Code) (t : TV) (A : AW) (e : AExit) (t1 : TV) (A1 : AW), codeOk b = true → evC P O n (.loop b) t A = some (e, t1, A1) →
 ∀ (ρ : Ren) (w : World) (a : Act), Rel ρ A w → Base W0 ρ A w → TR ρ t a.tmps.toList → a.defers = [] → ∀ Q : Exit → Act → World → Prop,
  (∀ ρ1 a1 w1, Rel ρ1 A1 w1 → Fr ρ A w ρ1 A1 w1 → TR ρ1 t1 a1.tmps.toList → a1.defers = [] → Q (exitOf e) a1 w1) → Code.rounds P b Q n a w
theorem evFun_ok (hO : OOk P W0 O) (hD : Drawn P) {n : Nat} (h : CodeOk P W0 O n) : FOk P W0 (evFun P O n) := by
 intro f args A v A1 he ρ w args' ha hr hb
 unfold evFun at he
 split at he
 ·rename_i g hg
  exact hO f g hg args A v A1 he ρ w args' ha hr hb
 ·split at he
  ·rename_i fn hf
   split at he
   ·rename_i b hbd
    have hcode := hD f fn b hf hbd
    have hlr := start_tr ha fn.ntmps
    refine calls_of_wp hf hbd ?_
    have fin : ∀ (e : AExit) (t : TV) (A2 : AW), evC P O n b (TV.start fn.ntmps args.toList) A = some (e, t, A2) → (e = .normal ∨ e = .ret) → (match resA P t A2 fn.results.toList with | some vs => some (oneOf vs, A2) | none => none) = some (v, A1) →
      b.wp P (bodyPost P fn fun e w1 => ∃ ρ1 v', e = .returned v' ∧ Rel ρ1 A1 w1 ∧ Fr ρ A w ρ1 A1 w1 ∧ VR ρ1 v v') { tmps := args' ++ Array.replicate (fn.ntmps - args'.size) undef, defers := [] } w := by
     intro e t A2 hev hen hres
     cases hvs : resA P t A2 fn.results.toList with
     | none => rw [hvs] at hres; cases hres
     | some vs =>
      rw [hvs] at hres
      cases hres
      refine h b _ A e t A1 hcode hev ρ w _ hr hb hlr rfl _ fun ρ1 a1 w1 k1 k2 k3 k4 => ?_
      obtain ⟨v', z1, z2⟩ := results_ok k1 k3 fn hvs
      rcases hen with rfl | rfl
      ·exact ⟨k4, v', z1, ρ1, v', rfl, k1, k2, z2⟩
      ·exact ⟨k4, v', z1, ρ1, v', rfl, k1, k2, z2⟩
    split at he
    ·rename_i t A2 hev; exact fin _ _ _ hev (.inl rfl) he
    ·rename_i t A2 hev; exact fin _ _ _ hev (.inr rfl) he
    ·cases he
   ·cases he
  ·cases he
theorem code_ok (G : Good P) (hO : OOk P W0 O) (hD : Drawn P) : ∀ n, CodeOk P W0 O n ∧ LoopOk P W0 O n := by
 intro n
 induction n with
 | zero => exact ⟨(fun c t A e t1 A1 _ he => by cases he), (fun b t A e t1 A1 _ he => by cases he)⟩
 | succ n ih =>
  obtain ⟨ihc, ihl⟩ := ih
  have hF := evFun_ok hO hD ihc
  have hloop : LoopOk P W0 O (n + 1) := by
   intro b t A e t1 A1 hc he ρ w a hr hb ht hdf Q hQ
   rw [rounds_succ]
   simp only [evC] at he
   cases hev : evC P O n b t A with
   | none => rw [hev] at he; cases he
   | some q =>
    obtain ⟨e2, t2, A2⟩ := q
    rw [hev] at he
    refine ihc b t A e2 t2 A2 hc hev ρ w a hr hb ht hdf _ fun ρ1 a1 w1 k1 k2 k3 k4 => ?_
    cases e2 with
    | normal => exact ihl b t2 A2 e t1 A1 hc he ρ1 w1 a1 k1 (hb.trans k2) k3 k4 Q fun ρ2 a2 w2 z1 z2 z3 z4 => hQ ρ2 a2 w2 z1 (k2.trans z2) z3 z4
    | exit id => cases he; exact hQ ρ1 a1 w1 k1 k2 k3 k4
    | ret => cases he; exact hQ ρ1 a1 w1 k1 k2 k3 k4
  refine ⟨?_, hloop⟩
  intro c t A e t1 A1 hc he ρ w a hr hb ht hdf Q hQ
  cases c with
  | skip => simp only [evC] at he; cases he; exact wp_skip (hQ ρ a w hr (Fr.refl _ _ _) ht hdf)
  | ret => simp only [evC] at he; cases he; exact wp_ret (hQ ρ a w hr (Fr.refl _ _ _) ht hdf)
  | exit id => simp only [evC] at he; cases he; exact wp_exit (hQ ρ a w hr (Fr.refl _ _ _) ht hdf)
  | seq x y =>
   simp only [codeOk, Bool.and_eq_true] at hc
   simp only [evC] at he
   cases hev : evC P O n x t A with
   | none => rw [hev] at he; cases he
   | some q =>
    obtain ⟨e2, t2, A2⟩ := q
    rw [hev] at he
    refine wp_seq (ihc x t A e2 t2 A2 hc.1 hev ρ w a hr hb ht hdf _ fun ρ1 a1 w1 k1 k2 k3 k4 => ?_)
    cases e2 with
    | normal => exact ihc y t2 A2 e t1 A1 hc.2 he ρ1 w1 a1 k1 (hb.trans k2) k3 k4 Q fun ρ2 a2 w2 z1 z2 z3 z4 => hQ ρ2 a2 w2 z1 (k2.trans z2) z3 z4
    | exit id => cases he; exact hQ ρ1 a1 w1 k1 k2 k3 k4
    | ret => cases he; exact hQ ρ1 a1 w1 k1 k2 k3 k4
  | cond o x y =>
   simp only [codeOk, Bool.and_eq_true] at hc
   simp only [evC] at he
   cases hok : opndOk o with
   | false => rw [hok] at he; split at he <;> first | cases he | (rename_i h _; cases h)
   | true =>
    have hv := vr_operand (ρ := ρ) (t := t) (a := a) hok fun k _ => vr_getD ht k
    rw [hok] at he
    split at he
    ·rename_i hb2
     rw [hb2] at hv
     have hca : a.eval o = .bool true := by generalize a.eval o = z at hv; cases hv; rfl
     exact wp_cond hca (ihc x t A e t1 A1 hc.1 he ρ w a hr hb ht hdf Q hQ)
    ·rename_i hb2
     rw [hb2] at hv
     have hca : a.eval o = .bool false := by generalize a.eval o = z at hv; cases hv; rfl
     exact wp_cond hca (ihc y t A e t1 A1 hc.2 he ρ w a hr hb ht hdf Q hQ)
    ·cases he
  | block id b =>
   simp only [codeOk] at hc
   simp only [evC] at he
   cases hev : evC P O n b t A with
   | none => rw [hev] at he; cases he
   | some q =>
    obtain ⟨e2, t2, A2⟩ := q
    rw [hev] at he
    refine wp_block (ihc b t A e2 t2 A2 hc hev ρ w a hr hb ht hdf _ fun ρ1 a1 w1 k1 k2 k3 k4 => ?_)
    cases e2 with
    | normal => cases he; exact hQ ρ1 a1 w1 k1 k2 k3 k4
    | ret => cases he; exact hQ ρ1 a1 w1 k1 k2 k3 k4
    | exit i =>
     simp only at he
     unfold exitOf Exit.inBlock
     split at he
     ·rename_i h1
      cases he
      simp only [if_pos h1]
      exact hQ ρ1 a1 w1 k1 k2 k3 k4
     ·rename_i h1
      cases he
      simp only [if_neg h1]
      exact hQ ρ1 a1 w1 k1 k2 k3 k4
  | loop b => exact wp_loop_rounds (n + 1) (hloop b t A e t1 A1 hc he ρ w a hr hb ht hdf Q hQ)
  | region id ops d =>
   cases d with
   | false =>
    simp only [evC] at he
    change (match opsA P (evFun P O n) ops ops.toList t A with | some (t, A) => some (AExit.normal, t, A) | none => none) = some (e, t1, A1) at he
    cases hop : opsA P (evFun P O n) ops ops.toList t A with
    | none => rw [hop] at he; cases he
    | some q =>
     obtain ⟨t2, A2⟩ := q
     rw [hop] at he
     cases he
     exact wp_region_list (ops_ok G hF ops.toList t A hop ρ w a hr hb ht Q fun ρ1 a1 w1 k1 k2 k3 k4 => hQ ρ1 a1 w1 k1 k2 k3 (k4.trans hdf))
   | true =>
    simp only [codeOk] at hc
    simp only [evC] at he
    change (match drawA P (evFun P O n) ops (enum 0 ops.toList) (ancs ops) (fills ops.toList) ops.size { done := 0, t, A, snaps := [], ins := [], susp := none } with | some s => (match endA P ops s with | some (t, A) => some (AExit.normal, t, A) | none => none) | none => none) = some (e, t1, A1) at he
    cases hdr : drawA P (evFun P O n) ops (enum 0 ops.toList) (ancs ops) (fills ops.toList) ops.size { done := 0, t, A, snaps := [], ins := [], susp := none } with
    | none => rw [hdr] at he; cases he
    | some s =>
     rw [hdr] at he
     simp only at he
     cases hen : endA P ops s with
     | none => rw [hen] at he; cases he
     | some q =>
      obtain ⟨t2, A2⟩ := q
      rw [hen] at he
      cases he
      exact draw_ok G hF hc hdr hen hr hb ht fun ρ1 a1 w1 k1 k2 k3 k4 => hQ ρ1 a1 w1 k1 k2 k3 (k4.trans hdf)
  | _ => simp only [evC] at he; cases he
theorem evF_ok (G : Good P) (hO : OOk P W0 O) (hD : Drawn P) (n : Nat) : FOk P W0 (evF P O n) := evFun_ok hO hD (code_ok G hO hD n).1
theorem closed_call (G : Good P) (hO : OOk P W0 O) (hD : Drawn P) (n : Nat) {f : FuncId} {args : Array Value} (ha : AR (fun _ => none) args args) {v : Value} {A1 : AW} (h : evF P O n f args AW.empty = some (v, A1)) :
  Calls P f args W0 (fun e w1 => ∃ ρ1 v', e = .returned v' ∧ Rel ρ1 A1 w1 ∧ Fr (fun _ => none) AW.empty W0 ρ1 A1 w1 ∧ VR ρ1 v v') :=
 evF_ok G hO hD n f args AW.empty v A1 h (fun _ => none) W0 args ha (Rel.empty W0) (Fr.refl _ _ _)
end
end Go.Proofs.YtpegcppeobndcaaGreatDoor.Abs
