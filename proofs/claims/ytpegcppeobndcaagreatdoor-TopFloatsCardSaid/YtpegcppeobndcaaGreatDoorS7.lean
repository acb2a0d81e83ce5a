/- Rational numbers: texts that are read: the small texts of this part, one behind another. -/
import Derived.SizedLaws
import Derived.Test.YtpegcppeobndcaaGreatDoorProg
import Derived.Test.YtpegcppeobndcaaGreatDoorAb
import Derived.Test.YtpegcppeobndcaaGreatDoorS6
import Derived.Lib.Split
import Derived.Lib.SplitLaws
import Derived.Test.YtpegcppeobndcaaGreatDoorLibC
import Derived.Test.YtpegcppeobndcaaGreatDoorS4
import Derived.LoopN
set_option linter.unusedVariables false
set_option maxHeartbeats 8000000
set_option maxRecDepth 100000
namespace Go.Proofs.YtpegcppeobndcaaGreatDoor.G
variable {H : Type} {enc : TypeId × Value → H}
theorem handed_and_shaped {a : Assume} {C : Checked} {os : Os} {f : FuncId} {fn : Func} {s : ChangeSpec} {apart fresh handsOn again : Bool} {X : World → Array Value → Prop}
  (hX : ∀ (w w' : World) (args : Array Value), w.heap = w'.heap → X w args → X w' args) (own : ownKnob C.prog.godebug = none) (started : os.Started) (noInit : C.prog.inits.idxOf? f = none) (hfn : C.prog.funcs[f]? = some fn)
  (witness : ∃ (w : World) (tape : Tape) (i : Input), w.os = os ∧ (w.forCall tape i).Shaped C.prog ∧ i.vars = [] ∧ Input.okWide C.prog (w.forCall tape i) .any w.heap.size f i ∧
   ((s.pre enc C.prog fn [] apart (w.forCall tape i).memory i.args ∧ X (w.forCall tape i).memory i.args) ∧ sizedMet enc C.prog fn (OpenSpec.ofChange s) apart (w.forCall tape i).memory i.args) ∧ a.holds C.prog (lone (Frame.enter C.prog f i.args .normal) [] (w.forCall tape i)))
  (contract : ∀ (W : World) (base : Nat) (args : Array Value) (ds gs : List (DataW H)) (before : List MemPlace),
   (∀ (j : Nat) t v, fn.params[j]? = some t → args[j]? = some v → Value.okWide C.prog W .any base t v) → DataW.Whole enc C.prog fn.params.toList s.vars apart W args.toList ds gs before →
   (DataW.weightsEach C.prog (fn.params.toList ++ s.plain.varTypes C.prog) (ds ++ gs)).all (· ≤ reachBytes) = true → X W args → W.ShapedOpen C.prog →
   Calls C.prog f args W fun e W' => ∃ v, e = .returned v ∧ s.post enc C.prog fn apart fresh handsOn again W args v W') :
  ReturnsInHanded a C os f .any (fun w args => (s.pre enc C.prog fn [] apart w args ∧ X w args) ∧ sizedMet enc C.prog fn (OpenSpec.ofChange s) apart w args) (s.post enc C.prog fn apart fresh handsOn again) := by
 refine returnsInHanded_of_calls own started noInit witness (fun w tape i _ hsh _ hok hpre hholds => ?_)
 obtain ⟨⟨⟨ds, gs, before, hw, _⟩, hx⟩, hz⟩ := hpre
 obtain ⟨_, _, _, fn', hfn', _, _, _, _, hval⟩ := hok
 obtain rfl : fn' = fn := Option.some.inj (hfn'.symm.trans hfn)
 refine (contract (w.forCall tape i) w.heap.size i.args ds gs before hval (DataW.Whole.of_heap (w' := w.forCall tape i) (by rfl) hw) (hz.weights hw) (hX _ _ _ (by rfl) hx) hsh).mono (fun e W' h => ?_)
 obtain ⟨v, rfl, hp⟩ := h
 exact ChangeSpec.post_blind hp
end Go.Proofs.YtpegcppeobndcaaGreatDoor.G
namespace Go.Proofs.YtpegcppeobndcaaGreatDoor.G
open Go.RowKit YtpegcppeobndcaaGreatDoorW.PrintWords YtpegcppeobndcaaGreatDoorW.PrintLast Go.Proofs.YtpegcppeobndcaaGreatDoor.Nn
def NIb (w : World) (g : Nat) : Prop := ∀ a : Addr, a.block = g → ∀ k x, w.cell? a ≠ some (.int k x)
def noI (u : Value) : Prop := ∀ k x, u ≠ .int k x
theorem NIb.grown {w w' : World} {row : Option Nat} {g : Nat} (h : NIb w g) (hg : w.grownBy w' row) (hlt : g < w.heap.size) (hne : some g ≠ row) : NIb w' g := fun a ha k x => by
 rw [World.cell?_of_block (hg.block a.block (by rw [ha]; exact hlt) (by rw [ha]; exact hne))]
 exact h a ha k x
theorem NIb_cells {w : World} {g : Nat} {cs : Array Value} {t : TypeId} {fr : Nat × Nat} (hg : w.heap[g]? = some (.cells cs t fr)) (h : ∀ u ∈ cs, noI u) : NIb w g := fun a ha k x e => by
 unfold World.cell? at e
 rw [ha, hg] at e
 dsimp only at e
 split at e
 ·cases e
 ·exact h _ (Array.mem_of_getElem? e) k x rfl
theorem NIb.mem {w : World} {g : Nat} {cs : Array Value} {t : TypeId} {fr : Nat × Nat} (h : NIb w g) (hg : w.heap[g]? = some (.cells cs t fr)) : ∀ u ∈ cs, noI u := fun u hu k x e => by
 obtain ⟨i, hi, rfl⟩ := Array.mem_iff_getElem.1 hu
 refine h ⟨g, i, none⟩ rfl k x ?_
 rw [cell_of_row w g i cs t fr hg, Array.getElem?_eq_getElem hi, e]
theorem Nu_grown {w w' : World} {row : Option Nat} {v : Value} {n : Nat} (h : Nu w v n) (hg : w.grownBy w' row) (hni : ∀ g, row = some g → NIb w g) : Nu w' v n := by
 obtain ⟨A, c, rfl, h1, hC⟩ := h
 refine ⟨A, c, rfl, h1, reads_CU ?_⟩
 have hR := CU_reads hC
 refine ⟨hR.1, hR.2.1, fun hp => ?_⟩
 obtain ⟨ad, e, hc2⟩ := hR.2.2 hp
 refine ⟨ad, e, fun j hj => ?_⟩
 have h3 := hc2 j hj
 exact hg.cell h3 (fun e => hni _ e.symm _ rfl _ _ h3)
def ownsNI (w : World) (base : Nat) (e : TypeId) (size : Nat) (v : Value) (n : Nat) (xs : List Value) : Prop := w.ownsRow base e size v n xs ∧ ∀ g, v.ownBlock = some g → NIb w g
theorem ownsNI_nil (w : World) (base : Nat) (e : TypeId) (size : Nat) : ownsNI w base e size (.slice none 0 0) 0 [] := ⟨World.ownsRow_nil w base e size, fun g h => by simp [Value.ownBlock] at h⟩
theorem ownsNI.kept {w w' : World} {base : Nat} {e : TypeId} {size : Nat} {v : Value} {n : Nat} {xs : List Value} {row : Option Nat} (h : ownsNI w base e size v n xs) (hg : w.grownBy w' row) (hne : v.ownBlock = none ∨ v.ownBlock ≠ row) : ownsNI w' base e size v n xs :=
 ⟨h.1.kept hg hne, fun g e => (h.2 g e).grown hg (h.1.lt g e).2 (fun e2 => by
  rcases hne with h1 | h1
  ·rw [h1] at e; cases e
  ·exact h1 (e.trans e2))⟩
theorem zero_mem {z : Array Value} {n : Nat} {u : Value} (h : u ∈ Builtin.zeroCells z n) (hz : ∀ u ∈ z, noI u) : noI u := by
 unfold Builtin.zeroCells at h
 obtain ⟨i, hi, rfl⟩ := Array.mem_map.1 h
 have h0 : i < n * z.size := by simpa using hi
 have hp : 0 < z.size := by
  rcases Nat.eq_zero_or_pos z.size with e | e
  ·rw [e] at h0; omega
  ·exact e
 have hm := Nat.mod_lt i hp
 rw [getElem!_pos z _ hm]
 exact hz _ (Array.getElem_mem hm)
section
variable {P : Program} (w : World)
theorem run_append_ni (base : Nat) (t ty e : TypeId) (i : TypeInfo) (z : Value) (size bytes : Nat) (ht : P.underlying t = some (.slice e)) (hi : P.info? e = some i) (hz : i.zero = some z)
  (hsize : i.size = size) (hby : i.bytes = bytes) (hzs : z.cells.size = size) (hsz : 0 < size)
  (v : Value) (n : Nat) (xs : List Value) (hown : ownsNI w base e size v n xs)
  (a : Addr) (m c : Nat) (news : List Value) (hl : news.length = m * size) (hnews : ∀ j u, news[j]? = some u → w.cell? (a.add j) = some u) (h1 : ∀ u ∈ news, u.oneCell' = true)
  (h63 : n + m ≤ maxLen) (hbytes : (n + m) * bytes ≤ 140737488355328) (hbase : base ≤ w.heap.size) (hm : 0 < m) (hnn : ∀ u ∈ news, noI u) (hzn : ∀ u ∈ z.cells, noI u) :
  ∃ v' w', (Builtin.append_ #[t, t] ty #[v, .slice (some a) m c]).run P w = .ok v' w' ∧ ownsNI w' base e size v' (n + m) (xs ++ news) ∧ w.grownBy w' v.ownBlock ∧ (∀ g j u, v.ownBlock = some g → xs[j]? = some u → w'.cell? ⟨g, j, none⟩ = some u) := by
 obtain ⟨v', w', hr, h2, h3, h4, h5⟩ := run_append_own_at (P := P) w base t ty e i z size bytes ht hi hz hsize hby hzs hsz v n xs hown.1 a m c news hl hnews h1 h63 hbytes hbase
 refine ⟨v', w', hr, ⟨h2, fun g hg => ?_⟩, h3, ?_⟩
 case refine_2 =>
  intro g j u hg hu
  rcases hown.1.2 with ⟨rfl, rfl⟩ | ⟨g0, cap, cur, rfl, hbg, hgh, hnc, hcm, hcs, htake⟩
  ·simp [Value.ownBlock] at hg
  ·simp [Value.ownBlock] at hg
   subst hg
   have hold := World.ownsRow.cells hown.1 (g := g0) rfl j u hu
   have hadd : (⟨g0, 0, none⟩ : Addr).add j = ⟨g0, j, none⟩ := by unfold Addr.add; split <;> simp_all
   rw [hadd] at hold
   by_cases hroom : n + m ≤ cap
   ·have hfit : n * i.size + news.length ≤ cur.size := by rw [hl, hcs, hsize, ← Nat.add_mul]; exact Nat.mul_le_mul_right _ hroom
    have hr2 := run_append_room (P := P) w t ty e i ht hi g0 n cap cur hgh a m c news (by rw [hl, hsize]) hnews h1 hroom hfit
    rw [hr] at hr2
    injection hr2 with e1 e2
    subst e2
    rw [cell_setRow_same w g0 j cur _ e _ hgh, hsize, htake]
    have hj : j < xs.length := by
     rcases Nat.lt_or_ge j xs.length with h | h
     ·exact h
     ·rw [List.getElem?_eq_none h] at hu; cases hu
    rw [List.getElem?_toArray, List.append_assoc, List.getElem?_append_left hj]
    exact hu
   ·simp only [maxLen] at h63
    have hr2 := run_append_grow (P := P) w t ty e i z ht hi hz ⟨g0, 0, none⟩ n cap xs (by rw [hown.1.1, hsize]) (World.ownsRow.cells hown.1 (g := g0) rfl) a m c news (by rw [hl, hsize]) hnews (by omega) (by omega) (growslice_fits (by omega) (by rw [hby]; exact hbytes))
    rw [hr] at hr2
    injection hr2 with e1 e2
    subst e2
    rw [World.cell?_alloc_lt _ _ _ (by simpa using World.block_lt_of_cell? w _ hold)]
    simpa using hold
 subst hsize
 subst hby
 simp only [maxLen] at h63
 obtain ⟨⟨hxl, hcase⟩, hni⟩ := hown
 rcases hcase with ⟨rfl, rfl⟩ | ⟨g0, cap, cur, rfl, hbg, hgh, hnc, hcm, hcs, htake⟩
 ·have hr2 := run_append_nil (P := P) w t ty e i z ht hi hz a m c news hl hnews hm (by omega) (by simp only [Nat.zero_add] at hbytes; omega)
  rw [hr] at hr2
  injection hr2 with e1 e2
  subst e1 e2
  simp [Value.ownBlock] at hg
  subst hg
  refine NIb_cells (heap_alloc_new w.drew _) (fun u hu => ?_)
  rcases Array.mem_append.1 hu with h | h
  ·exact hnn u (by simpa using h)
  ·exact zero_mem h hzn
 ·have hcur := (hni g0 (by simp [Value.ownBlock])).mem hgh
  by_cases hroom : n + m ≤ cap
  ·have hfit : n * i.size + news.length ≤ cur.size := by rw [hl, hcs, ← Nat.add_mul]; exact Nat.mul_le_mul_right _ hroom
   have hr2 := run_append_room (P := P) w t ty e i ht hi g0 n cap cur hgh a m c news hl hnews h1 hroom hfit
   rw [hr] at hr2
   injection hr2 with e1 e2
   subst e1 e2
   simp [Value.ownBlock] at hg
   subst hg
   refine NIb_cells (setRow_heap w g0 cur _ e _ hgh) (fun u hu => ?_)
   have hu2 : u ∈ cur.toList.take (n * i.size) ++ news ++ cur.toList.drop (n * i.size + news.length) := by simpa using hu
   rcases List.mem_append.1 hu2 with h | h
   ·rcases List.mem_append.1 h with h | h
    ·exact hcur u (by simpa using List.mem_of_mem_take h)
    ·exact hnn u h
   ·exact hcur u (by simpa using List.mem_of_mem_drop h)
  ·have holds : ∀ j u, xs[j]? = some u → w.cell? ((⟨g0, 0, none⟩ : Addr).add j) = some u := World.ownsRow.cells (⟨hxl, .inr ⟨g0, cap, cur, rfl, hbg, hgh, hnc, hcm, hcs, htake⟩⟩ : w.ownsRow base e i.size _ n xs) (g := g0) rfl
   have hr2 := run_append_grow (P := P) w t ty e i z ht hi hz ⟨g0, 0, none⟩ n cap xs hxl holds a m c news hl hnews (by omega) (by omega) (growslice_fits (by omega) hbytes)
   rw [hr] at hr2
   injection hr2 with e1 e2
   subst e1 e2
   simp [Value.ownBlock] at hg
   subst hg
   refine NIb_cells (heap_alloc_new w.drew _) (fun u hu => ?_)
   rcases Array.mem_append.1 hu with h | h
   ·rcases Array.mem_append.1 h with h | h
    ·have h' : u ∈ xs := by simpa using h
     rw [← htake] at h'
     exact hcur u (by simpa using List.mem_of_mem_take h')
    ·exact hnn u (by simpa using h)
   ·exact zero_mem h hzn
theorem wp_append_ni {o : Oper} {a : Act} {K : Act → World → Prop} {Q : Exit → Act → World → Prop} (s x : Operand) (t : TypeId)
  (ho : o.op = .call { callee := .builtin .append, args := #[s, x], argTypes := #[t, t] })
  (base : Nat) (e : TypeId) (i : TypeInfo) (z : Value) (size bytes : Nat) (ht : P.underlying t = some (.slice e)) (hi : P.info? e = some i) (hz : i.zero = some z)
  (hsize : i.size = size) (hby : i.bytes = bytes) (hzs : z.cells.size = size) (hsz : 0 < size)
  (v : Value) (n : Nat) (xs : List Value) (hs : a.eval s = v) (hown : ownsNI w base e size v n xs)
  (ad : Addr) (m c : Nat) (news : List Value) (hx : a.eval x = .slice (some ad) m c) (hl : news.length = m * size) (hnews : ∀ j u, news[j]? = some u → w.cell? (ad.add j) = some u) (h1 : ∀ u ∈ news, u.oneCell' = true)
  (h63 : n + m ≤ maxLen) (hbytes : (n + m) * bytes ≤ 140737488355328) (hbase : base ≤ w.heap.size) (hm : 0 < m) (hnn : ∀ u ∈ news, noI u) (hzn : ∀ u ∈ z.cells, noI u)
  (h : ∀ v' w', ownsNI w' base e size v' (n + m) (xs ++ news) → w.grownBy w' v.ownBlock → (∀ g j u, v.ownBlock = some g → xs[j]? = some u → w'.cell? ⟨g, j, none⟩ = some u) → K (a.put o.dst v') w') : o.wp P a w K Q := by
 obtain ⟨v', w', hr, h2, h3, h4⟩ := run_append_ni (P := P) w base t o.type e i z size bytes ht hi hz hsize hby hzs hsz v n xs hown ad m c news hl hnews h1 h63 hbytes hbase hm hnn hzn
 unfold Oper.wp execOp
 simp only [ho, resolve, invoke, builtin, Sem.run_bind, Sem.run_pure, Result.andThen_ok, List.map_toArray, List.map_cons, List.map_nil, hs, hx, hr]
 exact h v' w' h2 h3 h4
theorem wpList_append_ni {ops : Array Oper} {rest : List Oper} {o : Oper} {a : Act} {Q : Exit → Act → World → Prop} (hgd : o.guard = none) (s x : Operand) (t : TypeId)
  (ho : o.op = .call { callee := .builtin .append, args := #[s, x], argTypes := #[t, t] })
  (base : Nat) (e : TypeId) (i : TypeInfo) (z : Value) (size bytes : Nat) (ht : P.underlying t = some (.slice e)) (hi : P.info? e = some i) (hz : i.zero = some z)
  (hsize : i.size = size) (hby : i.bytes = bytes) (hzs : z.cells.size = size) (hsz : 0 < size)
  (v : Value) (n : Nat) (xs : List Value) (hs : a.eval s = v) (hown : ownsNI w base e size v n xs)
  (ad : Addr) (m c : Nat) (news : List Value) (hx : a.eval x = .slice (some ad) m c) (hl : news.length = m * size) (hnews : ∀ j u, news[j]? = some u → w.cell? (ad.add j) = some u) (h1 : ∀ u ∈ news, u.oneCell' = true)
  (h63 : n + m ≤ maxLen) (hbytes : (n + m) * bytes ≤ 140737488355328) (hbase : base ≤ w.heap.size) (hm : 0 < m) (hnn : ∀ u ∈ news, noI u) (hzn : ∀ u ∈ z.cells, noI u)
  (h : ∀ v' w', ownsNI w' base e size v' (n + m) (xs ++ news) → w.grownBy w' v.ownBlock → (∀ g j u, v.ownBlock = some g → xs[j]? = some u → w'.cell? ⟨g, j, none⟩ = some u) → wpList P ops Q rest (a.put o.dst v') w') : wpList P ops Q (o :: rest) a w :=
 wpList_plain hgd fun _ hK => wp_append_ni w s x t ho base e i z size bytes ht hi hz hsize hby hzs hsz v n xs hs hown ad m c news hx hl hnews h1 h63 hbytes hbase hm hnn hzn fun v' w' h2 h3 h4 => hK _ _ (h v' w' h2 h3 h4)
end
def hdS (l : List UInt8) : List UInt8 := l.takeWhile (fun c => c != 47)
def tlS (l : List UInt8) : List UInt8 := (l.dropWhile (fun c => c != 47)).drop 1
theorem occ1 (s : List UInt8) (i : Nat) : Lib.occAt s [47] i = (s[i]? == some 47) := by
 unfold Lib.occAt
 rw [← List.head?_drop]
 cases h : s.drop i with
 | nil => rfl
 | cons a l => simp [List.isPrefixOf, BEq.comm]
theorem hd_tl {s : List UInt8} (h : (47 : UInt8) ∈ s) : s = hdS s ++ 47 :: tlS s := by
 induction s with
 | nil => cases h
 | cons c s ih =>
  by_cases e : c = 47
  ·subst e; rfl
  ·have h2 : (47 : UInt8) ∈ s := by
    rcases List.mem_cons.1 h with h | h
    ·exact absurd h.symm e
    ·exact h
   have e2 : (c != 47) = true := by simpa using e
   have h3 : hdS (c :: s) = c :: hdS s := by unfold hdS; rw [List.takeWhile_cons, if_pos e2]
   have h4 : tlS (c :: s) = tlS s := by unfold tlS; rw [List.dropWhile_cons, if_pos e2]
   rw [h3, h4, List.cons_append, ← ih h2]
theorem hd_free (s : List UInt8) : ¬ (47 : UInt8) ∈ hdS s := by
 induction s with
 | nil => simp [hdS]
 | cons c s ih =>
  unfold hdS
  rw [List.takeWhile_cons]
  split
  ·rename_i e
   rw [List.mem_cons]
   rintro (h | h)
   ·simp [← h] at e
   ·exact ih h
  ·simp
theorem index47 (s : List UInt8) : (¬ (47 : UInt8) ∈ s ∧ Lib.index s [47] = -1) ∨ (∃ i : Nat, Lib.index s [47] = i ∧ i < s.length ∧ s.take i = hdS s ∧ s.drop (i + 1) = tlS s ∧ s.drop i = 47 :: tlS s ∧ (47 : UInt8) ∈ s) := by
 by_cases h : (47 : UInt8) ∈ s
 ·refine .inr ?_
  have hs := hd_tl h
  have hf := hd_free s
  generalize hdS s = H at *
  generalize tlS s = T at *
  subst hs
  have h1 : (H ++ 47 :: T)[H.length]? = some 47 := by rw [List.getElem?_append_right (Nat.le_refl _)]; simp
  refine ⟨H.length, Lib.index_first Z33 (by rw [occ1, h1]; rfl) (fun j hj => ?_), by simp, List.take_left, ?_, List.drop_left, h⟩
  ·rw [occ1, beq_eq_false_iff_ne, List.getElem?_append_left hj]
   intro e
   exact hf (List.mem_of_getElem? e)
  ·rw [← List.drop_drop, List.drop_left]
   rfl
 ·refine .inl ⟨h, Lib.index_none (fun j _ => ?_)⟩
  rw [occ1, beq_eq_false_iff_ne]
  intro e
  exact h (List.mem_of_getElem? e)
theorem count47 (s : List UInt8) : Lib.count s [47] = s.count 47 := by
 generalize hn : s.length = n
 induction n using Nat.strongRecOn generalizing s with
 | ind n ih =>
  rcases index47 s with ⟨h1, h2⟩ | ⟨i, h1, h2, h3, h4, h5, h6⟩
  ·rw [Lib.count_miss h2, List.count_eq_zero.2 h1]
  ·rw [Lib.count_hit Z33 h1]
   simp only [List.length_cons, List.length_nil, Nat.zero_add]
   rw [ih (s.drop (i + 1)).length (by rw [List.length_drop]; omega) _ rfl]
   have hs : s = s.take i ++ s.drop i := (List.take_append_drop i s).symm
   have hd : s.drop i = 47 :: s.drop (i + 1) := by rw [h5, h4]
   have h0 : (s.take i).count 47 = 0 := by
    rw [h3, List.count_eq_zero]
    exact hd_free s
   conv => rhs; rw [hs, List.count_append, h0, hd, List.count_cons_self]
   omega
def qneg (l : List UInt8) : Bool := Lib.hasPrefix l [45]
def qrest (l : List UInt8) : List UInt8 := Lib.trimPrefix l [45]
def qnum (l : List UInt8) : Nat := pnum (hdS (qrest l))
def qden (l : List UInt8) : Nat := if (47 : UInt8) ∈ qrest l then pnum (tlS (qrest l)) else 1
def qcode (l : List UInt8) : Nat := if 1 < (qrest l).count 47 then 4 else if pcode (hdS (qrest l)) ≠ 0 then pcode (hdS (qrest l)) else if (47 : UInt8) ∈ qrest l ∧ pcode (tlS (qrest l)) ≠ 0 then pcode (tlS (qrest l)) else if qden l = 0 then 5 else 0
def ReadPost (w : World) (l : List UInt8) (e : Ending) (w' : World) : Prop := if qcode l = 0 then LowPostE w (qneg l) (qnum l) (qden l) e w' else R3PostE w false 0 0 (qcode l) e w'
theorem hd_none {l : List UInt8} (h : ¬ (47 : UInt8) ∈ l) : hdS l = l := by
 induction l with
 | nil => rfl
 | cons c l ih =>
  have e2 : (c != 47) = true := by rw [bne_iff_ne]; intro e; exact h (by rw [e]; exact List.mem_cons_self)
  unfold hdS
  rw [List.takeWhile_cons, if_pos e2]
  exact congrArg _ (ih (fun h2 => h (List.mem_cons_of_mem _ h2)))
theorem pieces (s : ByteArray) : (Lib.splitB ⟨#[47]⟩ 0 (Lib.countB s ⟨#[47]⟩) s).length = (s.data.toList.count 47) + 1 ∧ Lib.countB s ⟨#[47]⟩ = s.data.toList.count 47 ∧
  (s.data.toList.count 47 = 0 → ∃ t0, Lib.splitB ⟨#[47]⟩ 0 (Lib.countB s ⟨#[47]⟩) s = [t0] ∧ t0.data.toList = hdS s.data.toList ∧ t0.size ≤ s.size) ∧
  (s.data.toList.count 47 = 1 → ∃ t0 t1, Lib.splitB ⟨#[47]⟩ 0 (Lib.countB s ⟨#[47]⟩) s = [t0, t1] ∧ t0.data.toList = hdS s.data.toList ∧ t1.data.toList = tlS s.data.toList ∧ t0.size ≤ s.size ∧ t1.size ≤ s.size) := by
 have hcb : Lib.countB s ⟨#[47]⟩ = s.data.toList.count 47 := count47 s.data.toList
 have hlen : ∀ (k : Nat) (s : List UInt8), s.count 47 = k → (Lib.splitK [47] 0 k s).length = k + 1 := by
  intro k
  induction k with
  | zero => intro s _; rfl
  | succ k ih =>
   intro s hs
   unfold Lib.splitK
   rcases index47 s with ⟨h1, h2⟩ | ⟨i, h1, h2, h3, h4, h5, h6⟩
   ·rw [List.count_eq_zero.2 h1] at hs; omega
   ·rw [if_neg (by rw [h1]; simp), h1, List.length_cons]
    have hc := count47 s
    rw [Lib.count_hit Z33 h1, count47] at hc
    have e : ((i : Int).toNat + [(47 : UInt8)].length) = i + [(47 : UInt8)].length := by simp
    rw [e, ih _ (by omega)]
 have hd := Lib.splitB_data ⟨#[47]⟩ 0 (Lib.countB s ⟨#[47]⟩) s
 have hl : (Lib.splitB ⟨#[47]⟩ 0 (Lib.countB s ⟨#[47]⟩) s).length = s.data.toList.count 47 + 1 := by
  have h1 := congrArg List.length hd
  rw [List.length_map] at h1
  rw [h1, hcb]
  exact hlen _ _ rfl
 refine ⟨hl, hcb, fun h0 => ?_, fun h0 => ?_⟩
 ·have hm : ¬ (47 : UInt8) ∈ s.data.toList := List.count_eq_zero.1 h0
  refine ⟨s, ?_, (hd_none hm).symm, Nat.le_refl _⟩
  rw [hcb, h0]
  rfl
 ·rcases index47 s.data.toList with ⟨h1, h2⟩ | ⟨i, h1, h2, h3, h4, h5, h6⟩
  ·rw [List.count_eq_zero.2 h1] at h0; omega
  ·rw [hcb, h0]
   have hi : Lib.indexB s ⟨#[47]⟩ = (i : Int) := h1
   rw [Lib.splitB_hit _ _ _ _ i hi, Lib.splitB_zero]
   refine ⟨_, _, rfl, ?_, ?_, ?_, ?_⟩
   ·rw [Lib.extract_from_zero]; exact h3
   ·rw [Lib.extract_to_end]; exact h4
   ·rw [ByteArray.size_extract]; omega
   ·rw [ByteArray.size_extract]; omega
end Go.Proofs.YtpegcppeobndcaaGreatDoor.G
namespace Go.Proofs.YtpegcppeobndcaaGreatDoor.G
open Go.RowKit YtpegcppeobndcaaGreatDoorW.PrintWords YtpegcppeobndcaaGreatDoorW.PrintLast Go.Proofs.YtpegcppeobndcaaGreatDoor.Nn
theorem infoP : (Tryz.prog.info? 25).map (fun i => (i.zero, i.size, i.bytes)) = some (some (.slice none 0 0), 1, 24) := by kernel_rfl
theorem grown_below {w w1 : World} {row : Option Nat} (h : Below w.heap.size w w1) : w.grownBy w1 row := ⟨h.os, h.tape, h.output, h.size, fun k hk _ => h.block k hk⟩
def AddPost (w : World) (base : Nat) (v : Value) (n : Nat) (xs : List Value) (l : List UInt8) (e : Ending) (w' : World) : Prop :=
 ∃ v' A L c, e = .returned (.tuple #[v', .int .i64 (pcode l : Int)]) ∧ ownsNI w' base 25 1 v' (n + 1) (xs ++ [.slice A L c]) ∧ Nu w' (.slice A L c) (pnum l) ∧ w.grownBy w' v.ownBlock
theorem padd_w {w : World} {base : Nat} {v : Value} {n : Nat} {xs : List Value} (s : ByteArray) (hown : ownsNI w base 25 1 v n xs) (hb : base ≤ w.heap.size) (hn : n ≤ 10) (hs : s.size ≤ 140737488355328) :
  Calls Tryz.prog 31 #[v, .string s] w (AddPost w base v n xs s.data.toList) := by
 have HC : Aside0 (Calls Tryz.prog 66 #[.string s] w (ParsePost w s.data.toList)) := ⟨parse_w s w hs⟩
 have HO := Aside0.mk hown
 have HB := Aside0.mk hb
 obtain ⟨pc, hpc⟩ : ∃ q : Int, q = (pcode s.data.toList : Int) := ⟨_, rfl⟩
 obtain ⟨pn, hpn⟩ : ∃ q : Nat, q = pnum s.data.toList := ⟨_, rfl⟩
 unfold ParsePost at HC
 unfold AddPost
 rw [← hpc, ← hpn] at HC ⊢
 clear hown hb hpc hpn
 go_enter Tryz.func31, Tryz.ntmps31
 go_wp2_with fail
 refine HC.out.mono ?_
 rintro e w1 ⟨u, rfl, hN, hB1⟩
 obtain ⟨A, L, c, rfl, hN⟩ := Nu_open hN
 have HG1 := Aside0.mk (grown_below hB1 (row := v.ownBlock))
 have HO1 := Aside0.mk (HO.out.kept (grown_below hB1 (row := none)) (by cases h : v.ownBlock <;> simp))
 have HG2 := Aside0.mk (HG1.out.trans (World.grownBy_alloc w1 (.cells #[.slice A L c] 25) v.ownBlock))
 have HO2 := Aside0.mk (HO1.out.kept (World.grownBy_alloc w1 (.cells #[.slice A L c] 25) none) (by cases h : v.ownBlock <;> simp))
 have HN2 := Aside0.mk (Nu_grown hN (World.grownBy_alloc w1 (.cells #[.slice A L c] 25) none) (fun g h => nomatch h))
 have HB2 := Aside0.mk (show base ≤ (w1.alloc (.cells #[.slice A L c] 25)).heap.size from Nat.le_trans HB.out (Nat.le_trans hB1.size Z33))
 have HCELL := Aside0.mk (show (w1.alloc (.cells #[.slice A L c] 25)).cell? ⟨w1.heap.size, 0, none⟩ = some (.slice A L c) by simp)
 obtain ⟨i, hi, hz, hsz, hby⟩ := info_parts infoP
 have HI := Aside0.mk (And.intro hi (And.intro hz (And.intro hsz hby)))
 clear hN hB1 HC HG1 HO1 HO HB hi hz hsz hby
 go_wp2_with (at_builtin; refine wpList_append_ni (w1.alloc (.cells #[.slice A L c] 25)) rfl (.tmp 13) (.tmp 15) 71 rfl base 25 i (.slice none 0 0) 1 24 Tryz.underlying71 HI.out.1 HI.out.2.1 HI.out.2.2.1 HI.out.2.2.2 rfl Z5 v n xs rfl HO2.out ⟨w1.heap.size, 0, none⟩ 1 1 [.slice A L c] rfl rfl (fun j u hj => by cases j with | zero => (cases hj; exact HCELL.out) | succ j => cases hj) (by simp [Value.oneCell']) (by simp only [maxLen]; omega) (by omega) HB2.out Z5 (by intro u hu k x; simp at hu; subst hu; simp) Z51 ?_; intro v2 w2 h2 h3 h4; have H2 := Aside0.mk h2; have H3 := Aside0.mk h3; clear h2 h3 h4)
 go_ret2
 exact ⟨v2, A, L, c, rfl, H2.out, Nu_grown HN2.out H3.out HO2.out.2, HG2.out.trans H3.out⟩
theorem own_open1 {w : World} {base : Nat} {e : TypeId} {v : Value} {n : Nat} {xs : List Value} (h : ownsNI w base e 1 v n xs) (hn : 0 < n) : ∃ g cap, v = .slice (some ⟨g, 0, none⟩) n cap ∧ base ≤ g ∧ g < w.heap.size ∧ ∀ j u, xs[j]? = some u → w.cell? ⟨g, j, none⟩ = some u := by
 have h0 := h.1
 rcases h.1.2 with ⟨rfl, rfl⟩ | ⟨g, cap, cur, rfl, hbg, hgh, hnc, hcm, hcs, htake⟩
 ·omega
 ·refine ⟨g, cap, rfl, hbg, (Array.getElem?_eq_some_iff.1 hgh).1, fun j u hu => ?_⟩
  have hadd : (⟨g, 0, none⟩ : Addr).add j = ⟨g, j, none⟩ := by unfold Addr.add; split <;> simp_all
  rw [← hadd]
  exact World.ownsRow.cells h0 rfl j u hu
def MkPost (w : World) (neg : Bool) (n d : Nat) (e : Ending) (w' : World) : Prop := if d = 0 then R3PostE w false 0 0 5 e w' else LowPostE w neg n d e w'
theorem qmakeX {w : World} (neg : Bool) {vn vd : Value} {n d : Nat} (hn : Nu w vn n) (hd : Nu w vd d) (bn : n < pw 1000) (bd : d < pw 1000) : Calls Tryz.prog 23 #[.bool neg, vn, vd] w (MkPost w neg n d) := by
 by_cases h : d = 0
 ·subst h
  exact (qmake0_w neg hn hd).mono fun _ _ h => by unfold MkPost; rw [if_pos rfl]; exact h
 ·exact (qmake_w neg hn hd bn bd h).mono fun _ _ h2 => by unfold MkPost; rw [if_neg h]; exact h2
theorem mk_form (neg : Bool) (n d : Nat) : ∃ (B : Bool) (N D : Nat) (k : Int), ∀ W e w', MkPost W neg n d e w' = R3PostE W B N D k e w' := by
 by_cases h : d = 0
 ·exact ⟨false, 0, 0, 5, fun W e w' => by unfold MkPost; rw [if_pos h]⟩
 ·exact ⟨_, _, _, 0, fun W e w' => by unfold MkPost; rw [if_neg h]; rfl⟩
theorem read_badW {w w' : World} {l : List UInt8} {c : Nat} {v : Value} (h : qcode l = c) (hc : c ≠ 0) (hR : R3 w' v false 0 0 ∧ Below w.heap.size w w') : ReadPost w l (.returned (.tuple #[v, .int .i64 (c : Int)])) w' := by
 subst h
 unfold ReadPost
 rw [if_neg hc]
 exact ⟨_, rfl, hR.1, hR.2⟩
theorem read_mk {w : World} {l : List UInt8} (h : qcode l = if qden l = 0 then 5 else 0) : ReadPost w l = MkPost w (qneg l) (qnum l) (qden l) := by
 funext e w'
 unfold ReadPost MkPost
 by_cases hd : qden l = 0
 ·rw [if_pos hd] at h ⊢
  rw [h, if_neg Z5]
  rfl
 ·rw [if_neg hd] at h ⊢
  rw [if_pos h]
theorem trim_le (l : List UInt8) : (qrest l).length ≤ l.length := by
 unfold qrest Lib.trimPrefix
 split
 ·rw [List.length_drop]; omega
 ·exact Nat.le_refl _
theorem qparse_many {w : World} {s R : ByteArray} {g : Bool} {m : Int} {l : List UInt8} (hl : l = s.data.toList) (hR : R = ⟨(qrest l).toArray⟩) (hg : g = qneg l) (hz : R.size ≤ 200000) (hm : w.cell? ⟨0, 0, none⟩ = some (.int .i64 m)) (h : 1 < (qrest l).count 47) :
  Calls Tryz.prog 8 #[.string s] w (ReadPost w l) := by
 have hRd : R.data.toList = qrest l := by rw [hR]
 have HCP : Aside0 (∀ W : World, Calls Tryz.prog 29 #[.string s, .string ⟨#[45]⟩] W (fun e w' => e = .returned (.tuple #[.string R, .bool g]) ∧ W = w')) := ⟨fun W => by rw [hR, hg, hl]; exact (Tryz.strings_CutPrefix s ⟨#[45]⟩ W).mono fun _ _ h => ⟨h.1, h.2.symm⟩⟩
 obtain ⟨W0, a0, hW0, e0, HK, HW, HGE⟩ := res1 w 27
 obtain ⟨hpl, hpc, hp0, hp1⟩ := pieces R
 rw [hRd] at hpl hpc hp0 hp1
 have hsp := Tryz.strings_Split R ⟨#[47]⟩ m W0 (by omega) Z32 Z5
 have HQ := Aside0.mk (show qcode l = 4 by unfold qcode; rw [if_pos h])
 obtain ⟨n1, hn1⟩ : ∃ n, n = (qrest l).count 47 + 1 := ⟨_, rfl⟩
 have h3 : 2 < n1 := by omega
 have HSP : Aside0 (Calls Tryz.prog 30 #[.string R, .string ⟨#[47]⟩] W0 (fun e w' => e = .returned (.slice (some ⟨W0.heap.size, 0, none⟩) n1 n1) ∧ Aside0 (Below W0.heap.size W0 w'))) := ⟨hsp.mono fun e w' ⟨h1, h2⟩ => ⟨by rw [h1, hpc, hn1], ⟨by rw [h2]; exact below_alloc (Below.refl _ _) _⟩⟩⟩
 clear hpl hpc hp0 hp1 hsp hm hRd hR hg hl hz h hn1
 go_enter Tryz.func8, Tryz.ntmps8
 go_wp2_with fail
 rw [← hW0, ← e0]
 clear hW0 e0
 refine (HCP.out _).mono ?_
 rintro e wx ⟨rfl, hw⟩
 subst hw
 go_wp2_with fail
 refine HSP.out.mono ?_
 rintro e w1 ⟨rfl, HB1⟩
 obtain ⟨⟨zc0, zc1, zc2⟩, zf0, zf1, zf2⟩ := HK.out.below HB1.out
 have HD := Aside0.mk (r3_done (neg := false) HW.out HGE.out HK.out HB1.out (Nu_nil _) (Nu_nil _))
 go_wp2_with fail
 exact bodyPost_ret (v := .tuple #[.agg #[.bool false, .slice none 0 0, .slice none 0 0], .int .i64 4]) Z38 rfl (read_badW (c := 4) HQ.out Z5 HD.out)
theorem qparse_one_bad {w : World} {s R : ByteArray} {g : Bool} {m : Int} {l : List UInt8} (hl : l = s.data.toList) (hR : R = ⟨(qrest l).toArray⟩) (hg : g = qneg l) (hz : R.size ≤ 200000) (hm : w.cell? ⟨0, 0, none⟩ = some (.int .i64 m)) (h : (qrest l).count 47 = 0) (hc0 : pcode (hdS (qrest l)) ≠ 0) :
  Calls Tryz.prog 8 #[.string s] w (ReadPost w l) := by
 have hRd : R.data.toList = qrest l := by rw [hR]
 have HCP : Aside0 (∀ W : World, Calls Tryz.prog 29 #[.string s, .string ⟨#[45]⟩] W (fun e w' => e = .returned (.tuple #[.string R, .bool g]) ∧ W = w')) := ⟨fun W => by rw [hR, hg, hl]; exact (Tryz.strings_CutPrefix s ⟨#[45]⟩ W).mono fun _ _ h => ⟨h.1, h.2.symm⟩⟩
 obtain ⟨W0, a0, hW0, e0, HK, HW, HGE⟩ := res1 w 27
 obtain ⟨hpl, hpc, hp0, hp1⟩ := pieces R
 rw [hRd] at hpl hpc hp0 hp1
 have hsp := Tryz.strings_Split R ⟨#[47]⟩ m W0 (by omega) Z32 Z5
 have hmem : ¬ (47 : UInt8) ∈ qrest l := by exact List.count_eq_zero.1 h
 have hnm : ¬ 1 < (qrest l).count 47 := by omega
 obtain ⟨t0, hps, ht0, hz0⟩ := hp0 h
 have HSP : Aside0 (Calls Tryz.prog 30 #[.string R, .string ⟨#[47]⟩] W0 (fun e w' => e = .returned (.slice (some ⟨W0.heap.size, 0, none⟩) 1 1) ∧ w' = W0.alloc (.cells #[.string t0] 9))) := ⟨hsp.mono fun e w' ⟨h1, h2⟩ => ⟨by rw [h1, hpc, h], by rw [h2, hps]; rfl⟩⟩
 have HQ := Aside0.mk (show qcode l = pcode (hdS (qrest l)) by unfold qcode; rw [if_neg hnm, if_pos hc0])
 obtain ⟨pb, hpb⟩ : ∃ q, q = pcode (hdS (qrest l)) := ⟨_, rfl⟩
 have HP := Aside0.mk (show pb ≠ 0 by rw [hpb]; exact hc0)
 rw [← hpb] at HQ
 have hbb : ((pb : Int) != 0) = true := by rw [bne_iff_ne]; have := HP.out; omega
 have hbe : ((pb : Int) == 0) = false := by rw [beq_eq_false_iff_ne]; have := HP.out; omega
 obtain ⟨p0, hp_0⟩ : ∃ q, q = pnum (hdS (qrest l)) := ⟨_, rfl⟩
 have BP0 := Aside0.mk (show p0 < pw 1000 by rw [hp_0]; exact Nat.lt_of_lt_of_le (pnum_lt _) (pw_le Z5))
 have HA0 := Aside0.mk (fun (base : Nat) (W : World) (v : Value) (xs : List Value) (hO : ownsNI W base 25 1 v 0 xs) (hb : base ≤ W.heap.size) => show Calls Tryz.prog 31 #[v, .string t0] W (fun e w' => ∃ v' A L c, e = .returned (.tuple #[v', .int .i64 (pb : Int)]) ∧ ownsNI w' base 25 1 v' (0 + 1) (xs ++ [.slice A L c]) ∧ Nu w' (.slice A L c) p0 ∧ W.grownBy w' v.ownBlock) from (padd_w t0 hO hb Z5 (by omega)).mono fun e w' h => by
  obtain ⟨v', A, L, c, h1, h2, h3, h4⟩ := h
  rw [ht0, ← hpb] at h1
  rw [ht0, ← hp_0] at h3
  exact ⟨v', A, L, c, h1, h2, h3, h4⟩)
 clear hpl hpc hp0 hp1 hsp hm hRd hR hg hl hz h hmem hnm hps ht0 hz0 hc0 hp_0 hpb
 obtain ⟨i, hi, hiz, hisz, hiby⟩ := info_parts infoP
 have HI := Aside0.mk (And.intro hi (And.intro hiz (And.intro hisz hiby)))
 clear hi hiz hisz hiby
 go_enter Tryz.func8, Tryz.ntmps8
 go_wp2_with fail
 rw [← hW0, ← e0]
 clear hW0 e0
 refine (HCP.out _).mono ?_
 rintro e wx ⟨rfl, hw⟩
 subst hw
 go_wp2_with fail
 refine HSP.out.mono ?_
 rintro e W1 ⟨rfl, hW1⟩
 have HT0 := Aside0.mk (show W1.cell? ⟨W0.heap.size, 0, none⟩ = some (.string t0) by rw [hW1]; simp)
 have HB1 := Aside0.mk (show Below W0.heap.size W0 W1 by rw [hW1]; exact below_alloc (Below.refl _ _) _)
 have HGP := Aside0.mk (show W0.heap.size < W1.heap.size by rw [hW1]; simp)
 clear hW1 HSP HCP
 have kt0 := HT0.out
 go_wp2_with fail
 refine wp_loop_rounds 2 ?_
 rw [rounds_succ]
 go_wp2_with fail
 refine (HA0.out W1.heap.size W1 (.slice none 0 0) [] (ownsNI_nil _ _ _ _) (Nat.le_refl _)).mono ?_
 rintro e w2 ⟨v2, A0, L0, c0, rfl, hO2, hN2, hG2⟩
 have HB2 := Aside0.mk (show Below W1.heap.size W1 w2 from Below.grown (Below.refl _ _) hG2 (Nat.le_refl _) (fun k h => nomatch h))
 have HWB2 := tT HB1 HB2.out
 clear hO2 hN2 hG2
 obtain ⟨⟨zc0, zc1, zc2⟩, zf0, zf1, zf2⟩ := HK.out.below HWB2.out
 have HD := Aside0.mk (r3_done (neg := false) HW.out HGE.out HK.out HWB2.out (Nu_nil _) (Nu_nil _))
 go_wp2_with fail
 exact Z55
theorem qparse_two_bad0 {w : World} {s R : ByteArray} {g : Bool} {m : Int} {l : List UInt8} (hl : l = s.data.toList) (hR : R = ⟨(qrest l).toArray⟩) (hg : g = qneg l) (hz : R.size ≤ 200000) (hm : w.cell? ⟨0, 0, none⟩ = some (.int .i64 m)) (h : (qrest l).count 47 = 1) (hc0 : pcode (hdS (qrest l)) ≠ 0) :
  Calls Tryz.prog 8 #[.string s] w (ReadPost w l) := by
 have hRd : R.data.toList = qrest l := by rw [hR]
 have HCP : Aside0 (∀ W : World, Calls Tryz.prog 29 #[.string s, .string ⟨#[45]⟩] W (fun e w' => e = .returned (.tuple #[.string R, .bool g]) ∧ W = w')) := ⟨fun W => by rw [hR, hg, hl]; exact (Tryz.strings_CutPrefix s ⟨#[45]⟩ W).mono fun _ _ h => ⟨h.1, h.2.symm⟩⟩
 obtain ⟨W0, a0, hW0, e0, HK, HW, HGE⟩ := res1 w 27
 obtain ⟨hpl, hpc, hp0, hp1⟩ := pieces R
 rw [hRd] at hpl hpc hp0 hp1
 have hsp := Tryz.strings_Split R ⟨#[47]⟩ m W0 (by omega) Z32 Z5
 have hmem : (47 : UInt8) ∈ qrest l := by apply Classical.byContradiction; intro h2; rw [List.count_eq_zero.2 h2] at h; omega
 have hnm : ¬ 1 < (qrest l).count 47 := by omega
 obtain ⟨t0, t1, hps, ht0, ht1, hz0, hz1⟩ := hp1 h
 have HSP : Aside0 (Calls Tryz.prog 30 #[.string R, .string ⟨#[47]⟩] W0 (fun e w' => e = .returned (.slice (some ⟨W0.heap.size, 0, none⟩) 2 2) ∧ w' = W0.alloc (.cells #[.string t0, .string t1] 9))) := ⟨hsp.mono fun e w' ⟨h1, h2⟩ => ⟨by rw [h1, hpc, h], by rw [h2, hps]; rfl⟩⟩
 have HQ := Aside0.mk (show qcode l = pcode (hdS (qrest l)) by unfold qcode; rw [if_neg hnm, if_pos hc0])
 obtain ⟨pb, hpb⟩ : ∃ q, q = pcode (hdS (qrest l)) := ⟨_, rfl⟩
 have HP := Aside0.mk (show pb ≠ 0 by rw [hpb]; exact hc0)
 rw [← hpb] at HQ
 have hbb : ((pb : Int) != 0) = true := by rw [bne_iff_ne]; have := HP.out; omega
 have hbe : ((pb : Int) == 0) = false := by rw [beq_eq_false_iff_ne]; have := HP.out; omega
 obtain ⟨p0, hp_0⟩ : ∃ q, q = pnum (hdS (qrest l)) := ⟨_, rfl⟩
 have BP0 := Aside0.mk (show p0 < pw 1000 by rw [hp_0]; exact Nat.lt_of_lt_of_le (pnum_lt _) (pw_le Z5))
 have HA0 := Aside0.mk (fun (base : Nat) (W : World) (v : Value) (xs : List Value) (hO : ownsNI W base 25 1 v 0 xs) (hb : base ≤ W.heap.size) => show Calls Tryz.prog 31 #[v, .string t0] W (fun e w' => ∃ v' A L c, e = .returned (.tuple #[v', .int .i64 (pb : Int)]) ∧ ownsNI w' base 25 1 v' (0 + 1) (xs ++ [.slice A L c]) ∧ Nu w' (.slice A L c) p0 ∧ W.grownBy w' v.ownBlock) from (padd_w t0 hO hb Z5 (by omega)).mono fun e w' h => by
  obtain ⟨v', A, L, c, h1, h2, h3, h4⟩ := h
  rw [ht0, ← hpb] at h1
  rw [ht0, ← hp_0] at h3
  exact ⟨v', A, L, c, h1, h2, h3, h4⟩)
 clear hpl hpc hp0 hp1 hsp hm hRd hR hg hl hz h hmem hnm hps ht0 hz0 ht1 hz1 hc0 hp_0 hpb
 obtain ⟨i, hi, hiz, hisz, hiby⟩ := info_parts infoP
 have HI := Aside0.mk (And.intro hi (And.intro hiz (And.intro hisz hiby)))
 clear hi hiz hisz hiby
 go_enter Tryz.func8, Tryz.ntmps8
 go_wp2_with fail
 rw [← hW0, ← e0]
 clear hW0 e0
 refine (HCP.out _).mono ?_
 rintro e wx ⟨rfl, hw⟩
 subst hw
 go_wp2_with fail
 refine HSP.out.mono ?_
 rintro e W1 ⟨rfl, hW1⟩
 have HT0 := Aside0.mk (show W1.cell? ⟨W0.heap.size, 0, none⟩ = some (.string t0) by rw [hW1]; simp)
 have HT1 := Aside0.mk (show W1.cell? ⟨W0.heap.size, 1, none⟩ = some (.string t1) by rw [hW1]; simp)
 have HB1 := Aside0.mk (show Below W0.heap.size W0 W1 by rw [hW1]; exact below_alloc (Below.refl _ _) _)
 have HGP := Aside0.mk (show W0.heap.size < W1.heap.size by rw [hW1]; simp)
 clear hW1 HSP HCP
 have kt0 := HT0.out
 go_wp2_with fail
 refine wp_loop_rounds 3 ?_
 rw [rounds_succ]
 go_wp2_with fail
 refine (HA0.out W1.heap.size W1 (.slice none 0 0) [] (ownsNI_nil _ _ _ _) (Nat.le_refl _)).mono ?_
 rintro e w2 ⟨v2, A0, L0, c0, rfl, hO2, hN2, hG2⟩
 have HB2 := Aside0.mk (show Below W1.heap.size W1 w2 from Below.grown (Below.refl _ _) hG2 (Nat.le_refl _) (fun k h => nomatch h))
 have HWB2 := tT HB1 HB2.out
 clear hO2 hN2 hG2
 obtain ⟨⟨zc0, zc1, zc2⟩, zf0, zf1, zf2⟩ := HK.out.below HWB2.out
 have HD := Aside0.mk (r3_done (neg := false) HW.out HGE.out HK.out HWB2.out (Nu_nil _) (Nu_nil _))
 go_wp2_with fail
 exact Z55
theorem qparse_two_bad1 {w : World} {s R : ByteArray} {g : Bool} {m : Int} {l : List UInt8} (hl : l = s.data.toList) (hR : R = ⟨(qrest l).toArray⟩) (hg : g = qneg l) (hz : R.size ≤ 200000) (hm : w.cell? ⟨0, 0, none⟩ = some (.int .i64 m)) (h : (qrest l).count 47 = 1) (hc0 : pcode (hdS (qrest l)) = 0) (hc1 : pcode (tlS (qrest l)) ≠ 0) :
  Calls Tryz.prog 8 #[.string s] w (ReadPost w l) := by
 have hRd : R.data.toList = qrest l := by rw [hR]
 have HCP : Aside0 (∀ W : World, Calls Tryz.prog 29 #[.string s, .string ⟨#[45]⟩] W (fun e w' => e = .returned (.tuple #[.string R, .bool g]) ∧ W = w')) := ⟨fun W => by rw [hR, hg, hl]; exact (Tryz.strings_CutPrefix s ⟨#[45]⟩ W).mono fun _ _ h => ⟨h.1, h.2.symm⟩⟩
 obtain ⟨W0, a0, hW0, e0, HK, HW, HGE⟩ := res1 w 27
 obtain ⟨hpl, hpc, hp0, hp1⟩ := pieces R
 rw [hRd] at hpl hpc hp0 hp1
 have hsp := Tryz.strings_Split R ⟨#[47]⟩ m W0 (by omega) Z32 Z5
 have hmem : (47 : UInt8) ∈ qrest l := by apply Classical.byContradiction; intro h2; rw [List.count_eq_zero.2 h2] at h; omega
 have hnm : ¬ 1 < (qrest l).count 47 := by omega
 obtain ⟨t0, t1, hps, ht0, ht1, hz0, hz1⟩ := hp1 h
 have HSP : Aside0 (Calls Tryz.prog 30 #[.string R, .string ⟨#[47]⟩] W0 (fun e w' => e = .returned (.slice (some ⟨W0.heap.size, 0, none⟩) 2 2) ∧ w' = W0.alloc (.cells #[.string t0, .string t1] 9))) := ⟨hsp.mono fun e w' ⟨h1, h2⟩ => ⟨by rw [h1, hpc, h], by rw [h2, hps]; rfl⟩⟩
 have HQ := Aside0.mk (show qcode l = pcode (tlS (qrest l)) by unfold qcode; rw [if_neg hnm, if_neg (fun h2 => h2 hc0), if_pos ⟨hmem, hc1⟩])
 obtain ⟨pb, hpb⟩ : ∃ q, q = pcode (tlS (qrest l)) := ⟨_, rfl⟩
 have HP := Aside0.mk (show pb ≠ 0 by rw [hpb]; exact hc1)
 rw [← hpb] at HQ
 have hbb : ((pb : Int) != 0) = true := by rw [bne_iff_ne]; have := HP.out; omega
 have hbe : ((pb : Int) == 0) = false := by rw [beq_eq_false_iff_ne]; have := HP.out; omega
 obtain ⟨p0, hp_0⟩ : ∃ q, q = pnum (hdS (qrest l)) := ⟨_, rfl⟩
 have BP0 := Aside0.mk (show p0 < pw 1000 by rw [hp_0]; exact Nat.lt_of_lt_of_le (pnum_lt _) (pw_le Z5))
 have HA0 := Aside0.mk (fun (base : Nat) (W : World) (v : Value) (xs : List Value) (hO : ownsNI W base 25 1 v 0 xs) (hb : base ≤ W.heap.size) => show Calls Tryz.prog 31 #[v, .string t0] W (fun e w' => ∃ v' A L c, e = .returned (.tuple #[v', .int .i64 0]) ∧ ownsNI w' base 25 1 v' (0 + 1) (xs ++ [.slice A L c]) ∧ Nu w' (.slice A L c) p0 ∧ W.grownBy w' v.ownBlock) from (padd_w t0 hO hb Z5 (by omega)).mono fun e w' h => by
  obtain ⟨v', A, L, c, h1, h2, h3, h4⟩ := h
  rw [ht0, hc0] at h1
  rw [ht0, ← hp_0] at h3
  exact ⟨v', A, L, c, h1, h2, h3, h4⟩)
 obtain ⟨p1, hp_1⟩ : ∃ q, q = pnum (tlS (qrest l)) := ⟨_, rfl⟩
 have BP1 := Aside0.mk (show p1 < pw 1000 by rw [hp_1]; exact Nat.lt_of_lt_of_le (pnum_lt _) (pw_le Z5))
 have HA1 := Aside0.mk (fun (base : Nat) (W : World) (v : Value) (xs : List Value) (hO : ownsNI W base 25 1 v 1 xs) (hb : base ≤ W.heap.size) => show Calls Tryz.prog 31 #[v, .string t1] W (fun e w' => ∃ v' A L c, e = .returned (.tuple #[v', .int .i64 (pb : Int)]) ∧ ownsNI w' base 25 1 v' (1 + 1) (xs ++ [.slice A L c]) ∧ Nu w' (.slice A L c) p1 ∧ W.grownBy w' v.ownBlock) from (padd_w t1 hO hb Z5 (by omega)).mono fun e w' h => by
  obtain ⟨v', A, L, c, h1, h2, h3, h4⟩ := h
  rw [ht1, ← hpb] at h1
  rw [ht1, ← hp_1] at h3
  exact ⟨v', A, L, c, h1, h2, h3, h4⟩)
 clear hpl hpc hp0 hp1 hsp hm hRd hR hg hl hz h hmem hnm hps ht0 hz0 ht1 hz1 hc0 hc1 hp_0 hp_1 hpb
 obtain ⟨i, hi, hiz, hisz, hiby⟩ := info_parts infoP
 have HI := Aside0.mk (And.intro hi (And.intro hiz (And.intro hisz hiby)))
 clear hi hiz hisz hiby
 go_enter Tryz.func8, Tryz.ntmps8
 go_wp2_with fail
 rw [← hW0, ← e0]
 clear hW0 e0
 refine (HCP.out _).mono ?_
 rintro e wx ⟨rfl, hw⟩
 subst hw
 go_wp2_with fail
 refine HSP.out.mono ?_
 rintro e W1 ⟨rfl, hW1⟩
 have HT0 := Aside0.mk (show W1.cell? ⟨W0.heap.size, 0, none⟩ = some (.string t0) by rw [hW1]; simp)
 have HT1 := Aside0.mk (show W1.cell? ⟨W0.heap.size, 1, none⟩ = some (.string t1) by rw [hW1]; simp)
 have HB1 := Aside0.mk (show Below W0.heap.size W0 W1 by rw [hW1]; exact below_alloc (Below.refl _ _) _)
 have HGP := Aside0.mk (show W0.heap.size < W1.heap.size by rw [hW1]; simp)
 clear hW1 HSP HCP
 have kt0 := HT0.out
 go_wp2_with fail
 refine wp_loop_rounds 3 ?_
 rw [rounds_succ]
 go_wp2_with fail
 refine (HA0.out W1.heap.size W1 (.slice none 0 0) [] (ownsNI_nil _ _ _ _) (Nat.le_refl _)).mono ?_
 rintro e w2 ⟨v2, A0, L0, c0, rfl, hO2, hN2, hG2⟩
 have HB2 := Aside0.mk (show Below W1.heap.size W1 w2 from Below.grown (Below.refl _ _) hG2 (Nat.le_refl _) (fun k h => nomatch h))
 have HWB2 := tT HB1 HB2.out
 have HO2 := Aside0.mk hO2
 have HN2 := Aside0.mk hN2
 clear hO2 hN2 hG2
 go_wp2_with fail
 rw [rounds_succ]
 have kt1 : w2.cell? ⟨W0.heap.size, 1, none⟩ = some (.string t1) := by rw [HB2.out.cell (p := ⟨W0.heap.size, 1, none⟩) HGP.out]; exact HT1.out
 go_wp2_with fail
 refine (HA1.out W1.heap.size w2 v2 ([] ++ [.slice A0 L0 c0]) HO2.out HB2.out.size).mono ?_
 rintro e w3 ⟨v3, A1, L1, c1, rfl, hO3, hN3, hG3⟩
 have HB3 := Aside0.mk (show Below W1.heap.size W1 w3 from Below.grown HB2.out hG3 HB2.out.size (fun k h => (HO2.out.1.lt k h).1))
 have HWB3 := tT HB1 HB3.out
 clear hO3 hN3 hG3
 obtain ⟨⟨zc0, zc1, zc2⟩, zf0, zf1, zf2⟩ := HK.out.below HWB3.out
 have HD := Aside0.mk (r3_done (neg := false) HW.out HGE.out HK.out HWB3.out (Nu_nil _) (Nu_nil _))
 go_wp2_with fail
 exact Z55
theorem qparse_one {w : World} {s R : ByteArray} {g : Bool} {m : Int} {l : List UInt8} (hl : l = s.data.toList) (hR : R = ⟨(qrest l).toArray⟩) (hg : g = qneg l) (hz : R.size ≤ 200000) (hm : w.cell? ⟨0, 0, none⟩ = some (.int .i64 m)) (h : (qrest l).count 47 = 0) (hc0 : pcode (hdS (qrest l)) = 0) :
  Calls Tryz.prog 8 #[.string s] w (ReadPost w l) := by
 have hRd : R.data.toList = qrest l := by rw [hR]
 have HCP : Aside0 (∀ W : World, Calls Tryz.prog 29 #[.string s, .string ⟨#[45]⟩] W (fun e w' => e = .returned (.tuple #[.string R, .bool g]) ∧ W = w')) := ⟨fun W => by rw [hR, hg, hl]; exact (Tryz.strings_CutPrefix s ⟨#[45]⟩ W).mono fun _ _ h => ⟨h.1, h.2.symm⟩⟩
 obtain ⟨W0, a0, hW0, e0, HK, HW, HGE⟩ := res1 w 27
 obtain ⟨hpl, hpc, hp0, hp1⟩ := pieces R
 rw [hRd] at hpl hpc hp0 hp1
 have hsp := Tryz.strings_Split R ⟨#[47]⟩ m W0 (by omega) Z32 Z5
 have hmem : ¬ (47 : UInt8) ∈ qrest l := by exact List.count_eq_zero.1 h
 have hnm : ¬ 1 < (qrest l).count 47 := by omega
 obtain ⟨t0, hps, ht0, hz0⟩ := hp0 h
 have HSP : Aside0 (Calls Tryz.prog 30 #[.string R, .string ⟨#[47]⟩] W0 (fun e w' => e = .returned (.slice (some ⟨W0.heap.size, 0, none⟩) 1 1) ∧ w' = W0.alloc (.cells #[.string t0] 9))) := ⟨hsp.mono fun e w' ⟨h1, h2⟩ => ⟨by rw [h1, hpc, h], by rw [h2, hps]; rfl⟩⟩
 have HQ := Aside0.mk (show qcode l = if qden l = 0 then 5 else 0 by unfold qcode; rw [if_neg hnm, if_neg (fun h2 => h2 hc0), if_neg (fun h2 => hmem h2.1)])
 have HDN := Aside0.mk (show qden l = 1 by unfold qden; rw [if_neg hmem])
 obtain ⟨p0, hp_0⟩ : ∃ q, q = pnum (hdS (qrest l)) := ⟨_, rfl⟩
 have BP0 := Aside0.mk (show p0 < pw 1000 by rw [hp_0]; exact Nat.lt_of_lt_of_le (pnum_lt _) (pw_le Z5))
 have HA0 := Aside0.mk (fun (base : Nat) (W : World) (v : Value) (xs : List Value) (hO : ownsNI W base 25 1 v 0 xs) (hb : base ≤ W.heap.size) => show Calls Tryz.prog 31 #[v, .string t0] W (fun e w' => ∃ v' A L c, e = .returned (.tuple #[v', .int .i64 0]) ∧ ownsNI w' base 25 1 v' (0 + 1) (xs ++ [.slice A L c]) ∧ Nu w' (.slice A L c) p0 ∧ W.grownBy w' v.ownBlock) from (padd_w t0 hO hb Z5 (by omega)).mono fun e w' h => by
  obtain ⟨v', A, L, c, h1, h2, h3, h4⟩ := h
  rw [ht0, hc0] at h1
  rw [ht0, ← hp_0] at h3
  exact ⟨v', A, L, c, h1, h2, h3, h4⟩)
 have HNN := Aside0.mk (show qnum l = p0 by rw [hp_0]; rfl)
 have HDD := HDN
 rw [read_mk HQ.out, HNN.out, HDD.out, ← hg]
 obtain ⟨Bq, Nq, Dq, kq, hmk⟩ := mk_form g p0 1
 have HMK := Aside0.mk (fun (W : World) (vn vd : Value) (hn : Nu W vn p0) (hd : Nu W vd 1) => show Calls Tryz.prog 23 #[.bool g, vn, vd] W (R3PostE W Bq Nq Dq kq) from (qmakeX g hn hd BP0.out (pw_lt1000 (show 1 < pw 1 by decide) (by omega))).mono fun e w' h => by rw [hmk] at h; exact h)
 have HGO : Aside0 (∀ e w', R3PostE w Bq Nq Dq kq e w' → MkPost w g p0 1 e w') := ⟨fun e w' h => by rw [hmk]; exact h⟩
 have H1 : Aside0 (∀ W : World, Calls Tryz.prog 28 #[] W (NuPost W 1)) := ⟨fun W => qone_w W⟩
 clear hmk HQ HDN HNN HDD
 clear hpl hpc hp0 hp1 hsp hm hRd hR hg hl hz h hmem hnm hps ht0 hz0 hc0 hp_0
 obtain ⟨i, hi, hiz, hisz, hiby⟩ := info_parts infoP
 have HI := Aside0.mk (And.intro hi (And.intro hiz (And.intro hisz hiby)))
 clear hi hiz hisz hiby
 go_enter Tryz.func8, Tryz.ntmps8
 go_wp2_with fail
 rw [← hW0, ← e0]
 clear hW0 e0
 refine (HCP.out _).mono ?_
 rintro e wx ⟨rfl, hw⟩
 subst hw
 go_wp2_with fail
 refine HSP.out.mono ?_
 rintro e W1 ⟨rfl, hW1⟩
 have HT0 := Aside0.mk (show W1.cell? ⟨W0.heap.size, 0, none⟩ = some (.string t0) by rw [hW1]; simp)
 have HB1 := Aside0.mk (show Below W0.heap.size W0 W1 by rw [hW1]; exact below_alloc (Below.refl _ _) _)
 have HGP := Aside0.mk (show W0.heap.size < W1.heap.size by rw [hW1]; simp)
 clear hW1 HSP HCP
 have kt0 := HT0.out
 go_wp2_with fail
 refine wp_loop_rounds 2 ?_
 rw [rounds_succ]
 go_wp2_with fail
 refine (HA0.out W1.heap.size W1 (.slice none 0 0) [] (ownsNI_nil _ _ _ _) (Nat.le_refl _)).mono ?_
 rintro e w2 ⟨v2, A0, L0, c0, rfl, hO2, hN2, hG2⟩
 have HB2 := Aside0.mk (show Below W1.heap.size W1 w2 from Below.grown (Below.refl _ _) hG2 (Nat.le_refl _) (fun k h => nomatch h))
 have HWB2 := tT HB1 HB2.out
 have HO2 := Aside0.mk hO2
 have HN2 := Aside0.mk hN2
 clear hO2 hN2 hG2
 go_wp2_with fail
 rw [rounds_succ]
 obtain ⟨gr, cap, rfl, hbg, hgl, hcells⟩ := own_open1 HO2.out Z5
 have k0 : w2.cell? ⟨gr, 0, none⟩ = some (.slice A0 L0 c0) := hcells 0 _ rfl
 have HBG := Aside0.mk hbg
 have HGL := Aside0.mk hgl
 clear hbg hgl hcells
 have HS0 := Aside0.mk k0
 have HSK := Aside0.mk (fun (W : World) (hW : Below w2.heap.size w2 W) => show W.cell? ⟨gr, 0, none⟩ = some (.slice A0 L0 c0) by rw [hW.cell (p := ⟨gr, 0, none⟩) HGL.out]; exact HS0.out)
 clear k0
 go_wp2_with fail
 refine wp_region_held_drew (S := fun W => W.cell? ⟨gr, 0, none⟩ = some (.slice A0 L0 c0)) Z4 (HSK.out _ (Below.drew (Below.refl _ _))) (fun hHeld => ?_)
 refine Inv.tk 0 (h := ?_)
 try simp only [PU]
 refine Inv.tk 1 (h := ?_)
 try simp only [PU]
 refine Inv.tk 2 (h := ?_)
 try simp only [PU]
 refine Inv.tk 3 (h := ?_)
 try simp only [PU]
 refine Inv.tk 4 (h := ?_)
 try simp only [PU]
 refine Inv.oneL (i := 5) rfl Z4 (fun K hK => ?_)
 go_simp
 refine (H1.out _).mono ?_
 rintro e w4 ⟨u4, rfl, hN4, hB4⟩
 obtain ⟨Ao, Lo, co, rfl, hN4⟩ := Nu_open hN4
 have HB4 := Aside0.mk (show Below w2.heap.size w2 w4 from (Below.drew (Below.refl w2.heap.size w2)).trans (hB4.mono (Nat.le_refl _)))
 have HN4 := Aside0.mk hN4
 clear hN4 hB4
 try go_wp2_with fail
 refine hK.out _ _ (HSK.out _ HB4.out) (fun hHeld => ?_)
 clear hK K
 try simp only [PU]
 refine Inv.oneL (i := 6) rfl Z4 (fun K hK => ?_)
 go_simp
 have HB5 := Aside0.mk (below_alloc HB4.out (.cells #[.slice Ao Lo co] 25))
 refine hK.out _ _ (HSK.out _ HB5.out) (fun hHeld => ?_)
 clear hK K
 try simp only [PU]
 have HO5 := Aside0.mk (HO2.out.kept (grown_below HB5.out (row := none)) (by simp [Value.ownBlock]))
 have HC5 := Aside0.mk (show (w4.alloc (.cells #[.slice Ao Lo co] 25)).cell? ⟨w4.heap.size, 0, none⟩ = some (.slice Ao Lo co) by simp)
 refine Inv.oneL (i := 7) rfl Z4 (fun K hK => ?_)
 rw [if_pos (by rfl)]
 refine wp_append_ni (w4.alloc (.cells #[.slice Ao Lo co] 25)) (.tmp 45) (.tmp 47) 71 rfl W1.heap.size 25 i (.slice none 0 0) 1 24 Tryz.underlying71 HI.out.1 HI.out.2.1 HI.out.2.2.1 HI.out.2.2.2 rfl Z5 _ 1 _ rfl HO5.out ⟨w4.heap.size, 0, none⟩ 1 1 [.slice Ao Lo co] rfl rfl (fun j u hj => by cases j with | zero => (cases hj; exact HC5.out) | succ j => cases hj) (by simp [Value.oneCell']) (by simp only [maxLen]; omega) (by omega) (Nat.le_trans HB2.out.size HB5.out.size) Z5 (by intro u hu k x; simp at hu; subst hu; simp) Z51 ?_
 intro v6 w6 hO6 hG6 hC6
 have HS6 := Aside0.mk (show w6.cell? ⟨gr, 0, none⟩ = some (.slice A0 L0 c0) from hC6 gr 0 _ rfl rfl)
 have HNI := Aside0.mk HO5.out.2
 have HN0 := Aside0.mk (Nu_grown ((HN2.out.below HB5.out)) hG6 HNI.out)
 have HND := Aside0.mk (Nu_grown (HN4.out.below (below_alloc (Below.refl _ _) (.cells #[.slice Ao Lo co] 25))) hG6 HNI.out)
 have HB6 := Aside0.mk (show Below W1.heap.size W1 w6 from Below.grown (HB2.out.trans (HB5.out.mono HB2.out.size)) hG6 (Nat.le_trans HB2.out.size HB5.out.size) (fun k h => (HO5.out.1.lt k h).1))
 obtain ⟨g6, cap6, rfl, hbg6, hgl6, hcells6⟩ := own_open1 hO6 Z5
 have HD6 := Aside0.mk (show w6.cell? ⟨g6, 1, none⟩ = some (.slice Ao Lo co) from hcells6 1 _ rfl)
 clear hO6 hG6 hC6 hbg6 hgl6 hcells6
 refine hK.out _ _ (HS6.out) (fun hHeld => ?_)
 clear hK K
 try simp only [PU]
 refine Inv.tk 8 (h := ?_)
 try simp only [PU]
 refine Inv.oneL (i := 9) rfl Z4 (fun K hK => ?_)
 have k6 := HD6.out
 go_simp
 clear k6
 refine hK.out _ _ (HS6.out) (fun hHeld => ?_)
 clear hK K
 try simp only [PU]
 refine Inv.oneL (i := 10) rfl Z4 (fun K hK => ?_)
 go_simp
 refine (HMK.out _ _ _ HN0.out HND.out).mono ?_
 rintro e w7 ⟨v7, rfl, ⟨A7, L7, c7, A8, L8, c8, rfl, h7, h8⟩, hB7⟩
 have HB7 := tT HB6 hB7
 have HS7 := Aside0.mk (show w7.cell? ⟨gr, 0, none⟩ = some (.slice A0 L0 c0) by rw [hB7.cell (p := ⟨gr, 0, none⟩) (World.block_lt_of_cell? w6 ⟨gr, 0, none⟩ HS6.out)]; exact HS6.out)
 have HD7 := Aside0.mk (r3_done (neg := Bq) HW.out HGE.out HK.out (HB1.out.trans (HB7.out.mono HB1.out.size)) h7 h8)
 obtain ⟨⟨zc0, zc1, zc2⟩, zf0, zf1, zf2⟩ := HK.out.below (HB1.out.trans (HB7.out.mono HB1.out.size))
 have HNE := Aside0.mk (show a0 ≠ gr from fun e => by have h1 := HBG.out; have h2 := HGP.out; have h3 := cell_lt HK.out.1.1; omega)
 clear h7 h8 hB7
 try go_wp2_with fail
 refine hK.out _ _ (HS7.out) (fun hHeld => ?_)
 clear hK K
 try simp only [PU]
 refine Inv.tk 11 (h := ?_)
 try simp only [PU]
 refine Inv.tk 12 (h := ?_)
 try simp only [PU]
 refine Inv.oneL (i := 13) rfl Z4 (fun K hK => ?_)
 go_simp
 refine hK.out _ _ Z36 (fun hHeld => ?_)
 clear hK K
 try simp only [PU]
 refine Inv.tk 14 (h := ?_)
 try simp only [PU]
 refine wpAnyH_done Z4 ?_ _
 go_wp2_with fail
 exact Z60
theorem qparse_two {w : World} {s R : ByteArray} {g : Bool} {m : Int} {l : List UInt8} (hl : l = s.data.toList) (hR : R = ⟨(qrest l).toArray⟩) (hg : g = qneg l) (hz : R.size ≤ 200000) (hm : w.cell? ⟨0, 0, none⟩ = some (.int .i64 m)) (h : (qrest l).count 47 = 1) (hc0 : pcode (hdS (qrest l)) = 0) (hc1 : pcode (tlS (qrest l)) = 0) :
  Calls Tryz.prog 8 #[.string s] w (ReadPost w l) := by
 have hRd : R.data.toList = qrest l := by rw [hR]
 have HCP : Aside0 (∀ W : World, Calls Tryz.prog 29 #[.string s, .string ⟨#[45]⟩] W (fun e w' => e = .returned (.tuple #[.string R, .bool g]) ∧ W = w')) := ⟨fun W => by rw [hR, hg, hl]; exact (Tryz.strings_CutPrefix s ⟨#[45]⟩ W).mono fun _ _ h => ⟨h.1, h.2.symm⟩⟩
 obtain ⟨W0, a0, hW0, e0, HK, HW, HGE⟩ := res1 w 27
 obtain ⟨hpl, hpc, hp0, hp1⟩ := pieces R
 rw [hRd] at hpl hpc hp0 hp1
 have hsp := Tryz.strings_Split R ⟨#[47]⟩ m W0 (by omega) Z32 Z5
 have hmem : (47 : UInt8) ∈ qrest l := by apply Classical.byContradiction; intro h2; rw [List.count_eq_zero.2 h2] at h; omega
 have hnm : ¬ 1 < (qrest l).count 47 := by omega
 obtain ⟨t0, t1, hps, ht0, ht1, hz0, hz1⟩ := hp1 h
 have HSP : Aside0 (Calls Tryz.prog 30 #[.string R, .string ⟨#[47]⟩] W0 (fun e w' => e = .returned (.slice (some ⟨W0.heap.size, 0, none⟩) 2 2) ∧ w' = W0.alloc (.cells #[.string t0, .string t1] 9))) := ⟨hsp.mono fun e w' ⟨h1, h2⟩ => ⟨by rw [h1, hpc, h], by rw [h2, hps]; rfl⟩⟩
 have HQ := Aside0.mk (show qcode l = if qden l = 0 then 5 else 0 by unfold qcode; rw [if_neg hnm, if_neg (fun h2 => h2 hc0), if_neg (fun h2 => h2.2 hc1)])
 have HDN := Aside0.mk (show qden l = pnum (tlS (qrest l)) by unfold qden; rw [if_pos hmem])
 obtain ⟨p0, hp_0⟩ : ∃ q, q = pnum (hdS (qrest l)) := ⟨_, rfl⟩
 have BP0 := Aside0.mk (show p0 < pw 1000 by rw [hp_0]; exact Nat.lt_of_lt_of_le (pnum_lt _) (pw_le Z5))
 have HA0 := Aside0.mk (fun (base : Nat) (W : World) (v : Value) (xs : List Value) (hO : ownsNI W base 25 1 v 0 xs) (hb : base ≤ W.heap.size) => show Calls Tryz.prog 31 #[v, .string t0] W (fun e w' => ∃ v' A L c, e = .returned (.tuple #[v', .int .i64 0]) ∧ ownsNI w' base 25 1 v' (0 + 1) (xs ++ [.slice A L c]) ∧ Nu w' (.slice A L c) p0 ∧ W.grownBy w' v.ownBlock) from (padd_w t0 hO hb Z5 (by omega)).mono fun e w' h => by
  obtain ⟨v', A, L, c, h1, h2, h3, h4⟩ := h
  rw [ht0, hc0] at h1
  rw [ht0, ← hp_0] at h3
  exact ⟨v', A, L, c, h1, h2, h3, h4⟩)
 obtain ⟨p1, hp_1⟩ : ∃ q, q = pnum (tlS (qrest l)) := ⟨_, rfl⟩
 have BP1 := Aside0.mk (show p1 < pw 1000 by rw [hp_1]; exact Nat.lt_of_lt_of_le (pnum_lt _) (pw_le Z5))
 have HA1 := Aside0.mk (fun (base : Nat) (W : World) (v : Value) (xs : List Value) (hO : ownsNI W base 25 1 v 1 xs) (hb : base ≤ W.heap.size) => show Calls Tryz.prog 31 #[v, .string t1] W (fun e w' => ∃ v' A L c, e = .returned (.tuple #[v', .int .i64 0]) ∧ ownsNI w' base 25 1 v' (1 + 1) (xs ++ [.slice A L c]) ∧ Nu w' (.slice A L c) p1 ∧ W.grownBy w' v.ownBlock) from (padd_w t1 hO hb Z5 (by omega)).mono fun e w' h => by
  obtain ⟨v', A, L, c, h1, h2, h3, h4⟩ := h
  rw [ht1, hc1] at h1
  rw [ht1, ← hp_1] at h3
  exact ⟨v', A, L, c, h1, h2, h3, h4⟩)
 have HNN := Aside0.mk (show qnum l = p0 by rw [hp_0]; rfl)
 have HDD := Aside0.mk (show qden l = p1 by rw [HDN.out, hp_1])
 rw [read_mk HQ.out, HNN.out, HDD.out, ← hg]
 obtain ⟨Bq, Nq, Dq, kq, hmk⟩ := mk_form g p0 p1
 have HMK := Aside0.mk (fun (W : World) (vn vd : Value) (hn : Nu W vn p0) (hd : Nu W vd p1) => show Calls Tryz.prog 23 #[.bool g, vn, vd] W (R3PostE W Bq Nq Dq kq) from (qmakeX g hn hd BP0.out BP1.out).mono fun e w' h => by rw [hmk] at h; exact h)
 have HGO : Aside0 (∀ e w', R3PostE w Bq Nq Dq kq e w' → MkPost w g p0 p1 e w') := ⟨fun e w' h => by rw [hmk]; exact h⟩
 have H1 : Aside0 (∀ W : World, Calls Tryz.prog 28 #[] W (NuPost W 1)) := ⟨fun W => qone_w W⟩
 clear hmk HQ HDN HNN HDD
 clear hpl hpc hp0 hp1 hsp hm hRd hR hg hl hz h hmem hnm hps ht0 hz0 ht1 hz1 hc0 hc1 hp_0 hp_1
 obtain ⟨i, hi, hiz, hisz, hiby⟩ := info_parts infoP
 have HI := Aside0.mk (And.intro hi (And.intro hiz (And.intro hisz hiby)))
 clear hi hiz hisz hiby
 go_enter Tryz.func8, Tryz.ntmps8
 go_wp2_with fail
 rw [← hW0, ← e0]
 clear hW0 e0
 refine (HCP.out _).mono ?_
 rintro e wx ⟨rfl, hw⟩
 subst hw
 go_wp2_with fail
 refine HSP.out.mono ?_
 rintro e W1 ⟨rfl, hW1⟩
 have HT0 := Aside0.mk (show W1.cell? ⟨W0.heap.size, 0, none⟩ = some (.string t0) by rw [hW1]; simp)
 have HT1 := Aside0.mk (show W1.cell? ⟨W0.heap.size, 1, none⟩ = some (.string t1) by rw [hW1]; simp)
 have HB1 := Aside0.mk (show Below W0.heap.size W0 W1 by rw [hW1]; exact below_alloc (Below.refl _ _) _)
 have HGP := Aside0.mk (show W0.heap.size < W1.heap.size by rw [hW1]; simp)
 clear hW1 HSP HCP
 have kt0 := HT0.out
 go_wp2_with fail
 refine wp_loop_rounds 3 ?_
 rw [rounds_succ]
 go_wp2_with fail
 refine (HA0.out W1.heap.size W1 (.slice none 0 0) [] (ownsNI_nil _ _ _ _) (Nat.le_refl _)).mono ?_
 rintro e w2 ⟨v2, A0, L0, c0, rfl, hO2, hN2, hG2⟩
 have HB2 := Aside0.mk (show Below W1.heap.size W1 w2 from Below.grown (Below.refl _ _) hG2 (Nat.le_refl _) (fun k h => nomatch h))
 have HWB2 := tT HB1 HB2.out
 have HO2 := Aside0.mk hO2
 have HN2 := Aside0.mk hN2
 clear hO2 hN2 hG2
 go_wp2_with fail
 rw [rounds_succ]
 have kt1 : w2.cell? ⟨W0.heap.size, 1, none⟩ = some (.string t1) := by rw [HB2.out.cell (p := ⟨W0.heap.size, 1, none⟩) HGP.out]; exact HT1.out
 go_wp2_with fail
 refine (HA1.out W1.heap.size w2 v2 ([] ++ [.slice A0 L0 c0]) HO2.out HB2.out.size).mono ?_
 rintro e w3 ⟨v3, A1, L1, c1, rfl, hO3, hN3, hG3⟩
 have HB3 := Aside0.mk (show Below W1.heap.size W1 w3 from Below.grown HB2.out hG3 HB2.out.size (fun k h => (HO2.out.1.lt k h).1))
 have HWB3 := tT HB1 HB3.out
 have HN20 := Aside0.mk (Nu_grown HN2.out hG3 HO2.out.2)
 have HO3 := Aside0.mk hO3
 have HN3 := Aside0.mk hN3
 clear hO3 hN3 hG3
 go_wp2_with fail
 rw [rounds_succ]
 obtain ⟨gr, cap, rfl, hbg, hgl, hcells⟩ := own_open1 HO3.out Z5
 have k0 : w3.cell? ⟨gr, 0, none⟩ = some (.slice A0 L0 c0) := hcells 0 _ rfl
 have HBG := Aside0.mk hbg
 have HGL := Aside0.mk hgl
 clear hbg hgl hcells
 have HS0 := Aside0.mk k0
 have HSK := Aside0.mk (fun (W : World) (hW : Below w3.heap.size w3 W) => show W.cell? ⟨gr, 0, none⟩ = some (.slice A0 L0 c0) by rw [hW.cell (p := ⟨gr, 0, none⟩) HGL.out]; exact HS0.out)
 clear k0
 go_wp2_with fail
 refine wp_region_held_drew (S := fun W => W.cell? ⟨gr, 0, none⟩ = some (.slice A0 L0 c0)) Z4 (HSK.out _ (Below.drew (Below.refl _ _))) (fun hHeld => ?_)
 refine Inv.tk 0 (h := ?_)
 try simp only [PU]
 refine Inv.tk 1 (h := ?_)
 try simp only [PU]
 refine Inv.tk 2 (h := ?_)
 try simp only [PU]
 refine Inv.tk 3 (h := ?_)
 try simp only [PU]
 refine Inv.tk 4 (h := ?_)
 try simp only [PU]
 refine Inv.oneL (i := 5) rfl Z4 (fun K hK => ?_)
 go_simp
 refine (H1.out _).mono ?_
 rintro e w4 ⟨u4, rfl, hN4, hB4⟩
 obtain ⟨Ao, Lo, co, rfl, hN4⟩ := Nu_open hN4
 have HB4 := Aside0.mk (show Below w3.heap.size w3 w4 from (Below.drew (Below.refl w3.heap.size w3)).trans (hB4.mono (Nat.le_refl _)))
 have HN4 := Aside0.mk hN4
 clear hN4 hB4
 try go_wp2_with fail
 refine hK.out _ _ (HSK.out _ HB4.out) (fun hHeld => ?_)
 clear hK K
 try simp only [PU]
 refine Inv.oneL (i := 6) rfl Z4 (fun K hK => ?_)
 go_simp
 have HB5 := Aside0.mk (below_alloc HB4.out (.cells #[.slice Ao Lo co] 25))
 refine hK.out _ _ (HSK.out _ HB5.out) (fun hHeld => ?_)
 clear hK K
 try simp only [PU]
 have HO5 := Aside0.mk (HO3.out.kept (grown_below HB5.out (row := none)) (by simp [Value.ownBlock]))
 have HC5 := Aside0.mk (show (w4.alloc (.cells #[.slice Ao Lo co] 25)).cell? ⟨w4.heap.size, 0, none⟩ = some (.slice Ao Lo co) by simp)
 refine Inv.oneL (i := 7) rfl Z4 (fun K hK => ?_)
 rw [if_pos (by rfl)]
 refine wp_append_ni (w4.alloc (.cells #[.slice Ao Lo co] 25)) (.tmp 45) (.tmp 47) 71 rfl W1.heap.size 25 i (.slice none 0 0) 1 24 Tryz.underlying71 HI.out.1 HI.out.2.1 HI.out.2.2.1 HI.out.2.2.2 rfl Z5 _ 2 _ rfl HO5.out ⟨w4.heap.size, 0, none⟩ 1 1 [.slice Ao Lo co] rfl rfl (fun j u hj => by cases j with | zero => (cases hj; exact HC5.out) | succ j => cases hj) (by simp [Value.oneCell']) (by simp only [maxLen]; omega) (by omega) (Nat.le_trans HB3.out.size HB5.out.size) Z5 (by intro u hu k x; simp at hu; subst hu; simp) Z51 ?_
 intro v6 w6 hO6 hG6 hC6
 have HS6 := Aside0.mk (show w6.cell? ⟨gr, 0, none⟩ = some (.slice A0 L0 c0) from hC6 gr 0 _ rfl rfl)
 have HNI := Aside0.mk HO5.out.2
 have HN0 := Aside0.mk (Nu_grown ((HN20.out.below HB5.out)) hG6 HNI.out)
 have HND := Aside0.mk (Nu_grown ((HN3.out.below HB5.out)) hG6 HNI.out)
 have HB6 := Aside0.mk (show Below W1.heap.size W1 w6 from Below.grown (HB3.out.trans (HB5.out.mono HB3.out.size)) hG6 (Nat.le_trans HB3.out.size HB5.out.size) (fun k h => (HO5.out.1.lt k h).1))
 obtain ⟨g6, cap6, rfl, hbg6, hgl6, hcells6⟩ := own_open1 hO6 Z5
 have HD6 := Aside0.mk (show w6.cell? ⟨g6, 1, none⟩ = some (.slice A1 L1 c1) from hcells6 1 _ rfl)
 clear hO6 hG6 hC6 hbg6 hgl6 hcells6
 refine hK.out _ _ (HS6.out) (fun hHeld => ?_)
 clear hK K
 try simp only [PU]
 refine Inv.tk 8 (h := ?_)
 try simp only [PU]
 refine Inv.oneL (i := 9) rfl Z4 (fun K hK => ?_)
 have k6 := HD6.out
 go_simp
 clear k6
 refine hK.out _ _ (HS6.out) (fun hHeld => ?_)
 clear hK K
 try simp only [PU]
 refine Inv.oneL (i := 10) rfl Z4 (fun K hK => ?_)
 go_simp
 refine (HMK.out _ _ _ HN0.out HND.out).mono ?_
 rintro e w7 ⟨v7, rfl, ⟨A7, L7, c7, A8, L8, c8, rfl, h7, h8⟩, hB7⟩
 have HB7 := tT HB6 hB7
 have HS7 := Aside0.mk (show w7.cell? ⟨gr, 0, none⟩ = some (.slice A0 L0 c0) by rw [hB7.cell (p := ⟨gr, 0, none⟩) (World.block_lt_of_cell? w6 ⟨gr, 0, none⟩ HS6.out)]; exact HS6.out)
 have HD7 := Aside0.mk (r3_done (neg := Bq) HW.out HGE.out HK.out (HB1.out.trans (HB7.out.mono HB1.out.size)) h7 h8)
 obtain ⟨⟨zc0, zc1, zc2⟩, zf0, zf1, zf2⟩ := HK.out.below (HB1.out.trans (HB7.out.mono HB1.out.size))
 have HNE := Aside0.mk (show a0 ≠ gr from fun e => by have h1 := HBG.out; have h2 := HGP.out; have h3 := cell_lt HK.out.1.1; omega)
 clear h7 h8 hB7
 try go_wp2_with fail
 refine hK.out _ _ (HS7.out) (fun hHeld => ?_)
 clear hK K
 try simp only [PU]
 refine Inv.tk 11 (h := ?_)
 try simp only [PU]
 refine Inv.tk 12 (h := ?_)
 try simp only [PU]
 refine Inv.oneL (i := 13) rfl Z4 (fun K hK => ?_)
 go_simp
 refine hK.out _ _ Z36 (fun hHeld => ?_)
 clear hK K
 try simp only [PU]
 refine Inv.tk 14 (h := ?_)
 try simp only [PU]
 refine wpAnyH_done Z4 ?_ _
 go_wp2_with fail
 exact Z60
theorem qparse_w (s : ByteArray) (w : World) (hs : s.size ≤ 100000) (hm : ∃ m, w.cell? ⟨0, 0, none⟩ = some (.int .i64 m)) : Calls Tryz.prog 8 #[.string s] w (ReadPost w s.data.toList) := by
 obtain ⟨m, hm⟩ := hm
 have hz : (⟨(qrest s.data.toList).toArray⟩ : ByteArray).size ≤ 200000 := by
  have h1 := trim_le s.data.toList
  have h2 := data_length s
  show (qrest s.data.toList).toArray.size ≤ 200000
  simp only [List.size_toArray]
  omega
 by_cases h : 1 < (qrest s.data.toList).count 47
 ·exact qparse_many rfl rfl rfl hz hm h
 ·by_cases h0 : (qrest s.data.toList).count 47 = 0
  ·by_cases c0 : pcode (hdS (qrest s.data.toList)) = 0
   ·exact qparse_one rfl rfl rfl hz hm h0 c0
   ·exact qparse_one_bad rfl rfl rfl hz hm h0 c0
  ·have h1 : (qrest s.data.toList).count 47 = 1 := by omega
   by_cases c0 : pcode (hdS (qrest s.data.toList)) = 0
   ·by_cases c1 : pcode (tlS (qrest s.data.toList)) = 0
    ·exact qparse_two rfl rfl rfl hz hm h1 c0 c1
    ·exact qparse_two_bad1 rfl rfl rfl hz hm h1 c0 c1
   ·exact qparse_two_bad0 rfl rfl rfl hz hm h1 c0
end Go.Proofs.YtpegcppeobndcaaGreatDoor.G
namespace Go.Proofs.YtpegcppeobndcaaGreatDoor.G
open Go.RowKit YtpegcppeobndcaaGreatDoorW.PrintWords YtpegcppeobndcaaGreatDoorW.PrintLast Go.Proofs.YtpegcppeobndcaaGreatDoor.Nn
open Go.Lib (decDigits)
def MaxOk (w : World) : Prop := ∃ m, w.cell? ⟨0, 0, none⟩ = some (.int .i64 m)
theorem MaxOk.below {w w1 : World} (h : MaxOk w) (hb : Below w.heap.size w w1) : MaxOk w1 := by
 obtain ⟨m, hm⟩ := h
 exact ⟨m, by rw [hb.cell (p := ⟨0, 0, none⟩) (cell_lt hm)]; exact hm⟩
theorem dec_free (n : Nat) : ∀ c ∈ decDigits n, c ≠ 45 ∧ c ≠ 47 := fun c hc => by
 have h := List.all_eq_true.1 (dec_all n) c hc
 simp only [isDig, decide_eq_true_eq] at h
 refine ⟨fun e => ?_, fun e => ?_⟩
 ·rw [e] at h; exact absurd h Z5
 ·rw [e] at h; exact absurd h Z5
theorem hd_app {D : List UInt8} (hD : ∀ c ∈ D, c ≠ 47) (T : List UInt8) : hdS (D ++ 47 :: T) = D ∧ tlS (D ++ 47 :: T) = T := by
 induction D with
 | nil => exact ⟨rfl, rfl⟩
 | cons c D ih =>
  have e2 : (c != 47) = true := by rw [bne_iff_ne]; exact hD c List.mem_cons_self
  obtain ⟨h1, h2⟩ := ih (fun c hc => hD c (List.mem_cons_of_mem _ hc))
  refine ⟨?_, ?_⟩
  ·unfold hdS at h1 ⊢
   rw [List.cons_append, List.takeWhile_cons, if_pos e2, h1]
  ·unfold tlS at h2 ⊢
   rw [List.cons_append, List.dropWhile_cons, if_pos e2, h2]
theorem count_free {D : List UInt8} (hD : ∀ c ∈ D, c ≠ 47) : D.count 47 = 0 := List.count_eq_zero.2 (fun h => hD _ h rfl)
theorem rest_sign (g : Bool) {n : Nat} {X : List UInt8} (hX : ∃ T, X = decDigits n ++ T) : qneg ((if g then [45] else []) ++ X) = g ∧ qrest ((if g then [45] else []) ++ X) = X := by
 have h0 : ∃ c t, X = c :: t ∧ c ≠ 45 := by
  obtain ⟨T, rfl⟩ := hX
  have hp := decDigits_pos n
  cases hd : decDigits n with
  | nil => rw [hd] at hp; simp at hp
  | cons c t => exact ⟨c, t ++ T, rfl, (dec_free n c (by rw [hd]; exact List.mem_cons_self)).1⟩
 obtain ⟨c, t, rfl, hc⟩ := h0
 cases g with
 | true =>
  refine ⟨?_, ?_⟩
  ·simp [qneg, Lib.hasPrefix]
  ·simp [qrest, Lib.trimPrefix, Lib.hasPrefix]
 | false =>
  have hne : ((45 : UInt8) == c) = false := by rw [beq_eq_false_iff_ne]; exact fun e => hc e.symm
  refine ⟨?_, ?_⟩
  ·show (((45 : UInt8) == c) && List.isPrefixOf [] t) = false
   rw [hne]
   rfl
  ·unfold qrest Lib.trimPrefix
   rw [if_neg]
   ·rfl
   ·show ¬ (((45 : UInt8) == c) && List.isPrefixOf [] t) = true
    rw [hne]
    simp
theorem read_frac (g : Bool) {a b : Nat} (ha : (decDigits a).length ≤ 400) (hb : (decDigits b).length ≤ 400) (h0 : b ≠ 0) {l : List UInt8} (hl : l = (if g then [45] else []) ++ (decDigits a ++ 47 :: decDigits b)) :
  qneg l = g ∧ qnum l = a ∧ qden l = b ∧ qcode l = 0 := by
 obtain ⟨h1, h2⟩ := rest_sign g (n := a) (X := decDigits a ++ 47 :: decDigits b) ⟨_, rfl⟩
 rw [← hl] at h1 h2
 obtain ⟨h3, h4⟩ := hd_app (fun c hc => (dec_free a c hc).2) (decDigits b)
 have hm : (47 : UInt8) ∈ qrest l := by rw [h2]; simp
 have hc : ¬ 1 < (qrest l).count 47 := by
  rw [h2, List.count_append, count_free (fun c hc => (dec_free a c hc).2), List.count_cons_self, count_free (fun c hc => (dec_free b c hc).2)]
  decide
 have hd : qden l = b := by unfold qden; rw [if_pos hm, h2, h4, pnum_dec hb]
 refine ⟨h1, by unfold qnum; rw [h2, h3, pnum_dec ha], hd, ?_⟩
 unfold qcode
 rw [if_neg hc, h2, h3, if_neg (fun h => h (pcode_dec ha)), h4, if_neg (fun h => h.2 (pcode_dec hb)), hd, if_neg h0]
theorem read_int (g : Bool) {a : Nat} (ha : (decDigits a).length ≤ 400) {l : List UInt8} (hl : l = (if g then [45] else []) ++ decDigits a) :
  qneg l = g ∧ qnum l = a ∧ qden l = 1 ∧ qcode l = 0 := by
 obtain ⟨h1, h2⟩ := rest_sign g (n := a) (X := decDigits a) ⟨[], by simp⟩
 rw [← hl] at h1 h2
 have hf : ¬ (47 : UInt8) ∈ decDigits a := fun h => (dec_free a _ h).2 rfl
 have hm : ¬ (47 : UInt8) ∈ qrest l := by rw [h2]; exact hf
 have hc : ¬ 1 < (qrest l).count 47 := by rw [List.count_eq_zero.2 hm]; decide
 have h3 := hd_none hf
 have hd : qden l = 1 := by unfold qden; rw [if_neg hm]
 refine ⟨h1, by unfold qnum; rw [h2, h3, pnum_dec ha], hd, ?_⟩
 unfold qcode
 rw [if_neg hc, h2, h3, if_neg (fun h => h (pcode_dec ha)), if_neg (fun h => hf h.1), hd, if_neg Z5]
theorem rat_of (x : Rat) : x = mkRat (sg (decide (x.num < 0)) x.num.natAbs) x.den := by rw [sg_num]; exact (Rat.mkRat_self x).symm
end Go.Proofs.YtpegcppeobndcaaGreatDoor.G
