/- Closed facts, and the wrap of the second form: the small texts of this part, one behind another. -/
import Derived.Test.YtccahbfbbaaicaaGreatDoorCards
import Derived.JoinedOf
import Derived.WalkKit
import Derived.KernelRfl
import Derived.SevenTiedAt
import Derived.SizedLaws
import Derived.JoinedCond
import Derived.LaidLaws
import Derived.Handed
import Derived.Test.YtccahbfbbaaicaaGreatDoorProg
/- The rows' list of lifted variables. -/
namespace Go.Proofs.YtccahbfbbaaicaaGreatDoor.F
theorem lifts : (Rows.shellWordsUptoRow.lifted == Tryz.prog.liftsFinal) = true := by kernel_rfl
end Go.Proofs.YtccahbfbbaaicaaGreatDoor.F
/- The rows' word on make. -/
namespace Go.Proofs.YtccahbfbbaaicaaGreatDoor.F
theorem make : (Tryz.prog.make == some Rows.shellWordsUptoRow.make) = true := by kernel_rfl
end Go.Proofs.YtccahbfbbaaicaaGreatDoor.F
/- The harness's main. -/
namespace Go.Proofs.YtccahbfbbaaicaaGreatDoor.F
theorem main : Tryz.prog.mainIs = some (Rows.shellWordsUptoCard.stood.harness.1, Rows.shellWordsUptoCard.stood.harness.2.toList) := by kernel_rfl
end Go.Proofs.YtccahbfbbaaicaaGreatDoor.F
/- The wrap of a row that lists variables, wants the world's shape and has a condition of its own (the second form). -/
set_option linter.unusedVariables false
namespace Go.Proofs.YtccahbfbbaaicaaGreatDoor.G
variable {H : Type} {enc : TypeId × Value → H}
theorem any_some {α : Type} {o : Option α} {p : α → Bool} (h : o.any p = true) : ∃ x, o = some x ∧ p x = true := by
 cases o with
 | none => cases h
 | some x => exact ⟨x, rfl, h⟩
theorem handed_and_shaped_cond {a : Assume} {C : Checked} {os : Os} {f : FuncId} {fn : Func} {s : OpenSpec} {k : (H : Type) → List (DataW H) → Bool} (hk : s.cond = some k) {F : Stop.Interp} {apart fresh handsOn again : Bool} {X : World → Array Value → Prop}
  (hX : ∀ (w w' : World) (args : Array Value), w.heap = w'.heap → X w args → X w' args) (own : ownKnob C.prog.godebug = none) (started : os.Started) (noInit : C.prog.inits.idxOf? f = none) (hfn : C.prog.funcs[f]? = some fn)
  (witness : ∃ (w : World) (tape : Tape) (i : Input), w.os = os ∧ (w.forCall tape i).Shaped C.prog ∧ i.vars = [] ∧ Input.okWide C.prog (w.forCall tape i) .any w.heap.size f i ∧
   ((s.pre enc C.prog fn [] apart (w.forCall tape i).memory i.args ∧ X (w.forCall tape i).memory i.args) ∧ sizedMet enc C.prog fn s apart (w.forCall tape i).memory i.args) ∧ a.holds C.prog (lone (Frame.enter C.prog f i.args .normal) [] (w.forCall tape i)))
  (contract : ∀ (W : World) (base : Nat) (args : Array Value) (ds gs : List (DataW H)) (before : List MemPlace),
   (∀ (j : Nat) t v, fn.params[j]? = some t → args[j]? = some v → Value.okWide C.prog W .any base t v) → DataW.Whole enc C.prog fn.params.toList s.vars apart W args.toList ds gs before →
   (DataW.weightsEach C.prog (fn.params.toList ++ s.bare.plain.varTypes C.prog) (ds ++ gs)).all (· ≤ reachBytes) = true → k H (ds ++ gs) = true → X W args → W.ShapedOpen C.prog →
   Calls C.prog f args W fun e W' => ∃ v, e = .returned v ∧ (s.at F).post enc C.prog fn apart fresh handsOn again W args v W') :
  ReturnsInHanded a C os f .any (fun w args => (s.pre enc C.prog fn [] apart w args ∧ X w args) ∧ sizedMet enc C.prog fn s apart w args) ((s.at F).post enc C.prog fn apart fresh handsOn again) := by
 refine returnsInHanded_of_calls own started noInit witness (fun w tape i _ hsh _ hok hpre hholds => ?_)
 obtain ⟨⟨hp, hx⟩, hz⟩ := hpre
 obtain ⟨ds, gs, before, hw, _, hkk⟩ := (OpenSpec.pre_some hk [] apart _ _).1 hp
 obtain ⟨_, _, _, fn', hfn', _, _, _, _, hval⟩ := hok
 obtain rfl : fn' = fn := Option.some.inj (hfn'.symm.trans hfn)
 refine (contract (w.forCall tape i) w.heap.size i.args ds gs before hval (DataW.Whole.of_heap (w' := w.forCall tape i) (by rfl) hw) (hz.weights hw) hkk (hX _ _ _ (by rfl) hx) hsh).mono (fun e W' h => ?_)
 obtain ⟨v, rfl, hp⟩ := h
 exact ChangeSpec.post_blind hp
theorem witness_shaped_cond {C : Checked} {os : Os} {f : FuncId} {fn : Func} {s : OpenSpec} {k : (H : Type) → List (DataW H) → Bool} (hk : s.cond = some k) {apart : Bool} {X : World → Array Value → Prop} (modest : Bool) (w0 : World) (args : Array Value) (fuel : Nat) (hos : w0.os = os)
  (hsh : (w0.forCall (fun _ _ => 0) ⟨#[], args, []⟩).Shaped C.prog)
  (hok : Input.okWideB C.prog (w0.forCall (fun _ _ => 0) ⟨#[], args, []⟩) f ⟨#[], args, []⟩ = true)
  (hpre : (DataW.whole enc C.prog (w0.forCall (fun _ _ => 0) ⟨#[], args, []⟩).memory fn.params.toList s.vars apart args.toList fuel).any (fun x => k H (x.1 ++ x.2.1)) = true)
  (hsz : s.bare.sizedB enc C.prog fn apart (w0.forCall (fun _ _ => 0) ⟨#[], args, []⟩).memory args fuel = true)
  (hx : X (w0.forCall (fun _ _ => 0) ⟨#[], args, []⟩).memory args) :
  ∃ (w : World) (tape : Tape) (i : Input), w.os = os ∧ (w.forCall tape i).Shaped C.prog ∧ i.vars = [] ∧ Input.okWide C.prog (w.forCall tape i) .any w.heap.size f i ∧
   ((s.pre enc C.prog fn [] apart (w.forCall tape i).memory i.args ∧ X (w.forCall tape i).memory i.args) ∧ sizedMet enc C.prog fn s apart (w.forCall tape i).memory i.args) ∧ ({ modest := modest } : Assume).holds C.prog (lone (Frame.enter C.prog f i.args .normal) [] (w.forCall tape i)) := by
 obtain ⟨x, hx1, hx2⟩ := any_some hpre
 exact ⟨w0, fun _ _ => 0, ⟨#[], args, []⟩, hos, hsh, (Input.okWide_of_okWideB (base := 0) hok).1, (Input.okWide_of_okWideB hok).2, ⟨⟨(OpenSpec.pre_some hk [] apart _ _).2 ⟨x.1, x.2.1, x.2.2, DataW.Whole_of_whole hx1, rfl, hx2⟩, hx⟩, sizedMet_of_sizedB hsz⟩, by
  simp only [Assume.holds]
  exact ⟨by simp, by simp, fun _ => Modest.zero, by simp, by simp⟩⟩
end Go.Proofs.YtccahbfbbaaicaaGreatDoor.G
