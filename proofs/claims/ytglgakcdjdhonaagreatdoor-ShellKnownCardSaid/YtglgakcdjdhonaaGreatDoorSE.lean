/- The small machine's oracles: the small texts of this part, one behind another. -/
import Derived.Test.YtglgakcdjdhonaaGreatDoorSC
import Derived.Test.YtglgakcdjdhonaaGreatDoorProg
import Derived.Test.YtglgakcdjdhonaaGreatDoorS7
import Derived.Lib.Split
import Derived.Lib.Join
import Derived.Test.YtglgakcdjdhonaaGreatDoorSD
import Derived.Test.YtglgakcdjdhonaaGreatDoorS6
import Derived.Test.YtglgakcdjdhonaaGreatDoorLibB
import Derived.Test.YtglgakcdjdhonaaGreatDoorLibC
import Derived.Test.YtglgakcdjdhonaaGreatDoorTz
/- The small machine's oracles: calls whose contracts are proved elsewhere. Definitions. -/
set_option linter.unusedVariables false
namespace Go.Proofs.YtglgakcdjdhonaaGreatDoor.Abs
open Go.Proofs.YtglgakcdjdhonaaGreatDoor.G Go.Proofs.YtglgakcdjdhonaaGreatDoor.Nn
def valL : List Nat → Nat
 | [] => 0
 | d :: l => d + 4294967296 * valL l
def limL : Nat → Nat → List Nat
 | 0, _ => []
 | f + 1, n => match n with
  | 0 => []
  | m + 1 => ((m + 1) % 4294967296) :: limL f ((m + 1) / 4294967296)
def limbs (n : Nat) : List Nat := limL (n.log2 + 1) n
def u32s : List Value → Option (List Nat)
 | [] => some []
 | .int .u32 (.ofNat x) :: l => match Nat.ble x 4294967295, u32s l with
  | true, some r => some (x :: r)
  | _, _ => none
 | _ => none
def rdL (A : AW) (a : Addr) (l : Nat) : Option Nat := match A.cells? a l with
 | some c => match u32s c with
  | some r => match r.getLast? with
   | some (_ + 1) => some (valL r)
   | _ => none
  | none => none
 | none => none
def rdN (A : AW) : Value → Option Nat
 | .slice none l _ => if Nat.beq l 0 then some 0 else none
 | .slice (some a) l c => if Nat.beq l 0 then some 0 else if Nat.ble l c && Nat.ble l 1000 then rdL A a l else none
 | _ => none
def wrN (A : AW) (n : Nat) : Value × AW :=
 let l := limbs n
 (.slice (some ⟨A.next, 0, none⟩) l.length l.length, A.add (.cells (l.map fun (x : Nat) => Value.int .u32 x) true (.loose 1)))
def rdR (A : AW) : Value → Option Rat
 | .agg ⟨[.bool g, n, d]⟩ => match rdN A n, rdN A d with
  | some n, some d =>
   let r := mkRat (sg g n) d
   if decide (r.num < 0) == g && Nat.beq r.num.natAbs n && Nat.beq r.den d then some r else none
  | _, _ => none
 | _ => none
def wrR (A : AW) (r : Rat) : Value × AW :=
 let (n, A) := wrN A r.num.natAbs
 let (d, A) := wrN A r.den
 (.agg #[.bool (decide (r.num < 0)), n, d], A)
def bndR (r : Rat) : Bool := Nat.ble (r.num.natAbs + 1) (pw 200) && Nat.ble (r.den + 1) (pw 200)
def or1 (f : Rat → Rat) (args : Array Value) (A : AW) : Option (Value × AW) := match args with
 | ⟨[a]⟩ => match rdR A a with
  | some x => if bndR x then some (wrR A (f x)) else none
  | none => none
 | _ => none
def or2 (f : Rat → Rat → Rat) (args : Array Value) (A : AW) : Option (Value × AW) := match args with
 | ⟨[a, b]⟩ => match rdR A a, rdR A b with
  | some x, some y => if bndR x && bndR y then some (wrR A (f x y)) else none
  | _, _ => none
 | _ => none
def or2v (f : Rat → Rat → Value) (args : Array Value) (A : AW) : Option (Value × AW) := match args with
 | ⟨[a, b]⟩ => match rdR A a, rdR A b with
  | some x, some y => if bndR x && bndR y then some (f x y, A) else none
  | _, _ => none
 | _ => none
def cmpR (x y : Rat) : Int := if x < y then -1 else if x = y then 0 else 1
def orQuo (args : Array Value) (A : AW) : Option (Value × AW) := match args with
 | ⟨[a, b]⟩ => match rdR A a, rdR A b with
  | some x, some y => if bndR x && bndR y && decide (y.num ≠ 0) then (let (v, A) := wrR A (x / y); some (.tuple #[v, .int .i64 0], A)) else none
  | _, _ => none
 | _ => none
def orRight (args : Array Value) (A : AW) : Option (Value × AW) := match args with
 | ⟨[a]⟩ => match rdR A a with
  | some x => if bndR x then some (.bool true, A) else none
  | none => none
 | _ => none
def decL : Nat → Nat → List UInt8 → List UInt8
 | 0, _, acc => acc
 | f + 1, n, acc => match Nat.ble n 9 with
  | true => UInt8.ofNat (48 + n) :: acc
  | false => decL f (n / 10) (UInt8.ofNat (48 + n % 10) :: acc)
def dec (n : Nat) : List UInt8 := decL (n.log2 + 1) n []
def textL (r : Rat) : List UInt8 := (if decide (r.num < 0) then [45] else []) ++ dec r.num.natAbs ++ (if r.den = 1 then [] else 47 :: dec r.den)
def bytesOf (l : List UInt8) : ByteArray := ⟨⟨l⟩⟩
def orText (args : Array Value) (A : AW) : Option (Value × AW) := match args with
 | ⟨[a]⟩ => match rdR A a with
  | some x => if bndR x then some (.string (bytesOf (textL x)), A) else none
  | none => none
 | _ => none
def wrZ (A : AW) : Value × AW :=
 let (n, A) := wrN A 0
 let (d, A) := wrN A 0
 (.agg #[.bool false, n, d], A)
def orParse (args : Array Value) (A : AW) : Option (Value × AW) := match args with
 | ⟨[.string s]⟩ => if Nat.ble s.data.toList.length 400 then
   (match Nat.beq (qcode s.data.toList) 0 with
   | true => if Nat.ble 1 (qden s.data.toList) then some (.tuple #[(wrR A (mkRat (sg (qneg s.data.toList) (qnum s.data.toList)) (qden s.data.toList))).1, .int .i64 0], (wrR A (mkRat (sg (qneg s.data.toList) (qnum s.data.toList)) (qden s.data.toList))).2) else none
   | false => some (.tuple #[(wrZ A).1, .int .i64 (qcode s.data.toList)], (wrZ A).2))
  else none
 | _ => none
def rowStr (A : AW) (l : List (List UInt8)) : Value × AW := (.slice (some ⟨A.next, 0, none⟩) l.length l.length, A.add (.cells (l.map fun x => Value.string (bytesOf x)) true (.loose 1)))
def orSplit (args : Array Value) (A : AW) : Option (Value × AW) := match args with
 | ⟨[.string s, .string p]⟩ => if Nat.ble 1 p.size && Nat.ble s.size 100000 && Nat.beq (Lib.splitK p.data.toList 0 (Lib.countB s p) s.data.toList).length (Lib.countB s p + 1) then some (rowStr A (Lib.splitK p.data.toList 0 (Lib.countB s p) s.data.toList)) else none
 | _ => none
def strsOf : List Value → Option (List (List UInt8))
 | [] => some []
 | .string s :: l => match strsOf l with
  | some r => some (s.data.toList :: r)
  | none => none
 | _ => none
def orJoin (args : Array Value) (A : AW) : Option (Value × AW) := match args with
 | ⟨[.slice (some a) (n + 1) c, .string p]⟩ => if Nat.ble (n + 1) c && Nat.ble n 100000 then (match A.cells? a (n + 1) with
  | some cs => match strsOf cs with
   | some l => if Nat.ble (Lib.join l p.data.toList).length 100000 then some (.string (bytesOf (Lib.join l p.data.toList)), A) else none
   | none => none
  | none => none) else none
 | _ => none
def orTz (args : Array Value) (A : AW) : Option (Value × AW) := match args with
 | ⟨[.int .u64 x]⟩ => if decide (x = 16) = true then some (.int .i64 4, A) else none
 | _ => none
def orac : Orac := fun f => match f with
 | 135 => some (or2 fun x y => x + y)
 | 161 => some (or2 fun x y => x - y)
 | 164 => some (or2 fun x y => x * y)
 | 203 => some (or1 fun x => -x)
 | 157 => some (or1 fun x => x.abs)
 | 122 => some (or2v fun x y => .int .i64 (cmpR x y))
 | 105 => some (or2v fun x y => .bool (decide (x = y)))
 | 163 => some orQuo
 | 113 => some orRight
 | 108 => some orText
 | 81 => some orParse
 | 12 => some orSplit
 | 106 => some orJoin
 | 236 => some orTz
 | _ => none
end Go.Proofs.YtglgakcdjdhonaaGreatDoor.Abs
/- The small machine's oracles: numbers that lie in both worlds. -/
set_option linter.unusedVariables false
namespace Go.Proofs.YtglgakcdjdhonaaGreatDoor.Abs
open Go.RowKit Go.Proofs.YtglgakcdjdhonaaGreatDoorW.PrintWords Go.Proofs.YtglgakcdjdhonaaGreatDoorW.PrintLast Go.Proofs.YtglgakcdjdhonaaGreatDoor.Nn Go.Proofs.YtglgakcdjdhonaaGreatDoor.G
theorem limL_digs : ∀ (f n : Nat), n < 2 ^ f → (limL f n).map (fun (x : Nat) => (x : Int)) = digs n
 | 0, n, h => by
  have : n = 0 := by omega
  subst this
  rw [digs_zero]; rfl
 | f + 1, 0, h => by rw [digs_zero]; rfl
 | f + 1, m + 1, h => by
  rw [digs_pos (by omega)]
  simp only [limL, List.map_cons]
  rw [limL_digs f ((m + 1) / 4294967296) (by rw [Nat.pow_succ] at h; have := Nat.two_pow_pos f; omega)]
theorem limbs_digs (n : Nat) : (limbs n).map (fun (x : Nat) => (x : Int)) = digs n := limL_digs _ _ Nat.lt_log2_self
theorem valL_val : ∀ l : List Nat, val (l.map fun (x : Nat) => (x : Int)) = valL l
 | [] => rfl
 | x :: l => by
  simp only [List.map_cons, val, valL]
  rw [valL_val l, Int.toNat_natCast]
theorem u32s_ok : ∀ (l : List Value) (r : List Nat), u32s l = some r → l = r.map (fun (x : Nat) => Value.int .u32 (x : Int)) ∧ ∀ x ∈ r, x ≤ 4294967295
 | [], r, h => by cases h; exact ⟨rfl, fun x hx => by cases hx⟩
 | v :: l, r, h => by
  unfold u32s at h
  split at h
  ·rename_i heq; cases heq
  ·rename_i x l2 heq
   cases heq
   split at h
   ·rename_i r2 hx hr2
    cases h
    obtain ⟨h1, h2⟩ := u32s_ok l r2 hr2
    refine ⟨by rw [List.map_cons, ← h1]; rfl, fun y hy => ?_⟩
    rcases List.mem_cons.1 hy with rfl | hy
    ·exact Nat.le_of_ble_eq_true hx
    ·exact h2 y hy
   ·cases h
  ·cases h
theorem cell_open {w : World} {a : Addr} {v : Value} (h : w.cell? a = some v) : a.spot = none ∧ ∃ c e fr, w.heap[a.block]? = some (.cells c e fr) ∧ c[a.off]? = some v := by
 unfold World.cell? at h
 split at h
 ·rename_i c e fr hc
  split at h
  ·cases h
  ·rename_i hs
   exact ⟨by cases hs' : a.spot <;> simp_all, c, e, fr, hc, h⟩
 ·cases h
theorem cells_at {A : AW} {a : Addr} {l : Nat} {c : List Value} (h : A.cells? a l = some c) : a.spot = none ∧ c.length = l ∧ ∃ c0 ro kd, A.get a.block = some (.cells c0 ro kd) ∧ ∀ j, j < l → c0[a.off + j]? = c[j]? := by
 unfold AW.cells? at h
 split at h
 ·rename_i c0 ro kd hs hg
  split at h
  ·rename_i hl
   cases h
   refine ⟨hs, by rw [List.length_take, List.length_drop]; omega, c0, ro, kd, hg, fun j hj => ?_⟩
   rw [List.getElem?_take_of_lt hj, List.getElem?_drop]
  ·cases h
 ·cases h
theorem rdL_ok {ρ : Ren} {A : AW} {w : World} (hr : Rel ρ A w) {i k l n : Nat} {L : Loc} (hL : ρ i = some L) (h : rdL A ⟨i, k, none⟩ l = some n) (hb : l ≤ 1000) (h0 : 0 < l) : (digs n).length = l ∧ CU w (some ⟨L.b, L.o + k, none⟩) l (digs n) := by
 unfold rdL at h
 split at h
 ·rename_i c hc
  split at h
  ·rename_i r hr2
   split at h
   ·rename_i m hm
    cases h
    obtain ⟨h1, h2⟩ := u32s_ok c r hr2
    obtain ⟨_, hlen, c0, ro, kd, hg, hat⟩ := cells_at hc
    have hrl : r.length = l := by rw [← hlen, h1, List.length_map]
    have hLim : Lim (r.map fun (x : Nat) => (x : Int)) := fun x hx => by
     obtain ⟨y, hy, rfl⟩ := List.mem_map.1 hx
     have := h2 y hy
     omega
    have hNorm : Norm (r.map fun (x : Nat) => (x : Int)) := by
     unfold Norm
     rw [List.getLast?_eq_getElem?] at hm
     rw [List.getD_eq_getElem?_getD, List.length_map, List.getElem?_map, hm]
     simp
     omega
    have hd : digs (valL r) = r.map fun (x : Nat) => (x : Int) := by rw [← valL_val, digs_val hLim hNorm]
    rw [hd]
    refine ⟨by rw [List.length_map]; exact hrl, reads_CU ⟨by rw [List.length_map]; exact hrl, by omega, fun _ => ⟨_, rfl, fun j hj => ?_⟩⟩⟩
    have hB := hr.blk i L _ hL hg
    obtain ⟨_, hB | ⟨c', e', fr, ho, hcs, _⟩⟩ := hB
    ·obtain ⟨hB0, _⟩ := hB
     have := hat j hj
     rw [hB0, List.getElem?_eq_getElem (show j < c.length by omega)] at this
     simp at this
    ·have h3 := hat j hj
     have h4 : c[j]? = some (.int .u32 ((r[j]'(by omega) : Nat) : Int)) := by
      have h5 : r[j]? = some (r[j]'(by omega)) := List.getElem?_eq_getElem _
      have h6 := congrArg (fun l : List Value => l[j]?) h1
      simp only [List.getElem?_map, h5] at h6
      exact h6
     obtain ⟨v', hv', hvr⟩ := hcs _ _ (h3.trans h4)
     cases hvr
     have e1 : (Addr.add ⟨L.b, L.o + k, none⟩ j) = ⟨L.b, L.o + (k + j), none⟩ := by
      unfold Addr.add
      split
      ·rename_i hj0; subst hj0; rfl
      ·simp [Nat.add_assoc]
     rw [e1]
     unfold World.cell?
     simp only [ho]
     rw [List.getD_eq_getElem?_getD, List.getElem?_map, List.getElem?_eq_getElem (by omega)]
     simpa using hv'
   ·cases h
  ·cases h
 ·cases h
theorem Nu_none {w : World} {a : Option Addr} {c : Nat} : Nu w (.slice a 0 c) 0 := by
 refine ⟨a, c, by rw [digs_zero]; rfl, by rw [digs_zero]; exact Nat.zero_le _, ?_⟩
 rw [digs_zero]
 exact reads_CU ⟨rfl, by simp, fun h => absurd h (Nat.lt_irrefl 0)⟩
theorem rdN_ok {ρ : Ren} {A : AW} {w : World} (hr : Rel ρ A w) {v v' : Value} {n : Nat} (h : rdN A v = some n) (hv : VR ρ v v') : Nu w v' n := by
 unfold rdN at h
 split at h
 ·split at h
  ·cases h
   cases hv
   exact Nu_none
  ·cases h
 ·rename_i a l c
  split at h
  ·rename_i hl
   have : l = 0 := Nat.eq_of_beq_eq_true hl
   subst this
   cases h
   cases hv <;> exact Nu_none
  ·rename_i hl
   split at h
   ·rename_i hlc
    rw [Bool.and_eq_true] at hlc
    have h1 := Nat.le_of_ble_eq_true hlc.1
    have h2 := Nat.le_of_ble_eq_true hlc.2
    have h0 : 0 < l := Nat.pos_of_ne_zero fun e => hl (by rw [e]; rfl)
    cases hv with
    | sexact _ _ hL hk =>
     obtain ⟨g1, g2⟩ := rdL_ok hr hL h h2 h0
     exact ⟨_, c, by rw [g1], by rw [g1]; exact h1, by rw [g1]; exact g2⟩
    | sloose _ _ c' e hL hk hc hroom =>
     obtain ⟨g1, g2⟩ := rdL_ok hr hL h h2 h0
     exact ⟨_, c', by rw [g1], by rw [g1]; omega, by rw [g1]; exact g2⟩
    | sempty => exact absurd h0 (Nat.lt_irrefl 0)
    | svoid => exact absurd h0 (Nat.lt_irrefl 0)
   ·cases h
 ·cases h
theorem rdR_ok {ρ : Ren} {A : AW} {w : World} (hr : Rel ρ A w) {v v' : Value} {x : Rat} (h : rdR A v = some x) (hv : VR ρ v v') : Ra w v' x := by
 unfold rdR at h
 split at h
 ·rename_i g n d
  split at h
  ·rename_i n0 d0 hn hd
   simp only at h
   split at h
   ·rename_i hc
    cases h
    simp only [Bool.and_eq_true, beq_iff_eq, Nat.beq_eq] at hc
    obtain ⟨⟨c1, c2⟩, c3⟩ := hc
    cases hv with
    | @agg _ a' ha hall =>
     obtain ⟨la⟩ := a'
     have hlen : la.length = 3 := by simpa using ha.symm
     match la, hlen, hall with
     | [b, n', d'], _, hall =>
      have k0 := hall 0 (by simp) (by simp)
      have k1 := hall 1 (by simp) (by simp)
      have k2 := hall 2 (by simp) (by simp)
      simp at k0 k1 k2
      cases k0
      obtain ⟨A1, L1, d1, e1, u1⟩ := Nu_open (rdN_ok hr hn k1)
      obtain ⟨A2, L2, d2, e2, u2⟩ := Nu_open (rdN_ok hr hd k2)
      subst e1 e2
      unfold Ra R3
      refine ⟨A1, L1, d1, A2, L2, d2, ?_, ?_, ?_⟩
      ·rw [c1]
      ·rw [c2]; exact u1
      ·rw [c3]; exact u2
   ·cases h
  ·cases h
 ·cases h
theorem Rel.below {ρ : Ren} {A : AW} {w w1 : World} (h : Rel ρ A w) (hb : Below w.heap.size w w1) : Rel ρ A w1 ∧ Fr ρ A w ρ A w1 :=
 ⟨⟨h.dom, h.fresh, fun i L B h1 h2 => by
   cases hs : solid B with
   | true => rw [hb.block _ (h.lt h1 h2 hs)]; exact h.blk i L B h1 h2
   | false => exact (h.blk i L B h1 h2).hollow hs, h.sep⟩,
  ⟨fun _ _ => rfl, Nat.le_refl _, hb.os, hb.tape, hb.output, hb.size, fun k hk hl => ⟨hb.block k hk, hl⟩⟩⟩
theorem wrN_ok {ρ : Ren} {A : AW} {w : World} (h : Rel ρ A w) {v' : Value} {n : Nat} (hn : Nu w v' n) : ∃ ρ1, Rel ρ1 (wrN A n).2 w ∧ Fr ρ A w ρ1 (wrN A n).2 w ∧ VR ρ1 (wrN A n).1 v' ∧ Ext ρ ρ1 := by
 obtain ⟨Ad, c, rfl, hc, hC⟩ := hn
 have hR := CU_reads hC
 have hl : (limbs n).length = (digs n).length := by rw [← limbs_digs n, List.length_map]
 cases hd : digs n with
 | nil =>
  have h0 : limbs n = [] := List.eq_nil_of_length_eq_zero (by rw [hl, hd]; rfl)
  obtain ⟨r1, r2⟩ := h.add (w1 := w) ⟨0, 0, .loose 1, 0⟩ (.cells [] true (.loose 1)) (Nat.le_refl _) (fun _ _ => rfl) ⟨rfl, .inl ⟨rfl, rfl⟩⟩ (fun hm => by simp [mutB] at hm) (fun _ hs => by simp [solid] at hs) rfl rfl rfl
  have e1 : wrN A n = (.slice (some ⟨A.next, 0, none⟩) 0 0, A.add (.cells [] true (.loose 1))) := by unfold wrN; rw [h0]; rfl
  rw [e1]
  exact ⟨_, r1, r2, .sempty (L := ⟨0, 0, .loose 1, 0⟩) c 1 Ad (by simp [Ren.up]) rfl, h.up_ext _⟩
 | cons d0 dl =>
  have hpos : 0 < (digs n).length := by rw [hd]; simp
  obtain ⟨ad, hAd, hcell⟩ := hR.2.2 hpos
  subst hAd
  have hc0 := hcell 0 hpos
  have e0 : ad.add 0 = ad := by simp [Addr.add]
  rw [e0] at hc0
  obtain ⟨hs, cs, el, fr, hheap, hcs⟩ := cell_open hc0
  obtain ⟨ab, ao, asp⟩ := ad
  simp only at hs hheap hcs
  subst hs
  have hcellj : ∀ j, j < (digs n).length → cs[ao + j]? = some (.int .u32 ((digs n).getD j 0)) := fun j hj => by
   have := hcell j hj
   have e1 : (Addr.add ⟨ab, ao, none⟩ j) = ⟨ab, ao + j, none⟩ := by
    unfold Addr.add
    split
    ·rename_i hj0; subst hj0; rfl
    ·rfl
   rw [e1] at this
   unfold World.cell? at this
   simp only [hheap] at this
   simpa using this
  have hblk : CellsR (ρ.up A.next ⟨ab, ao, .loose 1, c⟩) ⟨ab, ao, .loose 1, c⟩ ((limbs n).map fun (x : Nat) => Value.int .u32 x) true (.loose 1) w.heap[ab]? := by
   refine ⟨cs, el, fr, hheap, fun j v hj => ?_, fun hro => by cases hro⟩
   have hjl : j < (digs n).length := by
    rcases Nat.lt_or_ge j (digs n).length with h' | h'
    ·exact h'
    ·rw [List.getElem?_eq_none (by rw [List.length_map, hl]; exact h')] at hj; cases hj
   refine ⟨v, ?_, ?_⟩
   ·rw [hcellj j hjl, ← hj, List.getElem?_map, List.getElem?_eq_getElem (by omega), ← limbs_digs n, List.getD_eq_getElem?_getD, List.getElem?_map, List.getElem?_eq_getElem (by omega)]
    rfl
   ·rw [List.getElem?_map, List.getElem?_eq_getElem (by omega)] at hj
    cases hj
    exact .int _ _
  obtain ⟨r1, r2⟩ := h.add (w1 := w) ⟨ab, ao, .loose 1, c⟩ (.cells ((limbs n).map fun (x : Nat) => Value.int .u32 x) true (.loose 1)) (Nat.le_refl _) (fun _ _ => rfl) ⟨rfl, .inr hblk⟩ (fun hm => by simp [mutB] at hm) (fun _ _ j M C h1 h2 h3 e => by
   have hB := h.blk j M C h1 h2
   cases C with
   | cells c1 ro kd =>
    cases ro with
    | true => simp [mutB] at h3
    | false =>
     obtain ⟨_, ⟨_, hf⟩ | ⟨c', e', fr', ho, _, hm⟩⟩ := hB
     ·cases hf
     ·obtain ⟨_, _, _, hno⟩ := hm rfl
      rw [e, hheap] at ho
      cases ho
      have := hno _ _ (hcellj 0 hpos)
      simp [isU32] at this
   | map es =>
    obtain ⟨es', clk, ho, _⟩ := hB
    rw [e, hheap] at ho
    cases ho
   | iter s p =>
    have ho := hB.2
    rw [e, hheap] at ho
    cases ho) rfl rfl rfl
  refine ⟨_, r1, r2, ?_, h.up_ext _⟩
  have e2 : (limbs n).length = (digs n).length := hl
  unfold wrN
  simp only
  rw [e2, ← hd]
  have := VR.sloose (ρ := ρ.up A.next ⟨ab, ao, .loose 1, c⟩) (i := A.next) (k := 0) (L := ⟨ab, ao, .loose 1, c⟩) (digs n).length (digs n).length c 1 (by simp [Ren.up]) rfl hc (by simp)
  simpa using this
theorem wrR_ok {ρ : Ren} {A : AW} {w : World} (h : Rel ρ A w) {v' : Value} {x : Rat} (hx : Ra w v' x) : ∃ ρ1, Rel ρ1 (wrR A x).2 w ∧ Fr ρ A w ρ1 (wrR A x).2 w ∧ VR ρ1 (wrR A x).1 v' := by
 obtain ⟨A1, L1, c1, A2, L2, c2, rfl, h1, h2⟩ := hx
 obtain ⟨ρ1, r1, f1, v1, x1⟩ := wrN_ok h h1
 obtain ⟨ρ2, r2, f2, v2, x2⟩ := wrN_ok r1 h2
 refine ⟨ρ2, r2, f1.trans f2, ?_⟩
 refine .agg (by simp) fun j g1 g2 => ?_
 have hj : j < 3 := by simpa using g1
 match j, hj with
 | 0, _ => exact .bool _
 | 1, _ => exact v1.mono x2
 | 2, _ => exact v2
theorem back_num {ρ : Ren} {A : AW} {w w1 : World} (h : Rel ρ A w) {v' : Value} {x : Rat} (hx : Ra w1 v' x) (hb : Below w.heap.size w w1) : ∃ ρ1, Rel ρ1 (wrR A x).2 w1 ∧ Fr ρ A w ρ1 (wrR A x).2 w1 ∧ VR ρ1 (wrR A x).1 v' := by
 obtain ⟨r1, f1⟩ := h.below hb
 obtain ⟨ρ1, r2, f2, v2⟩ := wrR_ok r1 hx
 exact ⟨ρ1, r2, f1.trans f2, v2⟩
theorem wrZ_ok {ρ : Ren} {A : AW} {w : World} (h : Rel ρ A w) {v' : Value} (hx : R3 w v' false 0 0) : ∃ ρ1, Rel ρ1 (wrZ A).2 w ∧ Fr ρ A w ρ1 (wrZ A).2 w ∧ VR ρ1 (wrZ A).1 v' := by
 obtain ⟨A1, L1, c1, A2, L2, c2, rfl, h1, h2⟩ := hx
 obtain ⟨ρ1, r1, f1, v1, x1⟩ := wrN_ok h h1
 obtain ⟨ρ2, r2, f2, v2, x2⟩ := wrN_ok r1 h2
 refine ⟨ρ2, r2, f1.trans f2, ?_⟩
 refine .agg (by simp) fun j g1 g2 => ?_
 have hj : j < 3 := by simpa using g1
 match j, hj with
 | 0, _ => exact .bool _
 | 1, _ => exact v1.mono x2
 | 2, _ => exact v2
theorem back_z {ρ : Ren} {A : AW} {w w1 : World} (h : Rel ρ A w) {v' : Value} (hx : R3 w1 v' false 0 0) (hb : Below w.heap.size w w1) : ∃ ρ1, Rel ρ1 (wrZ A).2 w1 ∧ Fr ρ A w ρ1 (wrZ A).2 w1 ∧ VR ρ1 (wrZ A).1 v' := by
 obtain ⟨r1, f1⟩ := h.below hb
 obtain ⟨ρ1, r2, f2, v2⟩ := wrZ_ok r1 hx
 exact ⟨ρ1, r2, f1.trans f2, v2⟩
end Go.Proofs.YtglgakcdjdhonaaGreatDoor.Abs
/- The small machine's oracles are what their calls do. -/
set_option linter.unusedVariables false
namespace Go.Proofs.YtglgakcdjdhonaaGreatDoor.Abs
open Go.RowKit Go.Proofs.YtglgakcdjdhonaaGreatDoorW.PrintWords Go.Proofs.YtglgakcdjdhonaaGreatDoorW.PrintLast Go.Proofs.YtglgakcdjdhonaaGreatDoor.Nn Go.Proofs.YtglgakcdjdhonaaGreatDoor.G
structure BaseOk (w : World) : Prop where
 tab : TabOk w
 max : ∃ m, w.cell? ⟨0, 0, none⟩ = some (.int .i64 m)
 tz : Tz16 w
theorem BaseOk.below {w w1 : World} (h : BaseOk w) (hb : Below w.heap.size w w1) : BaseOk w1 := by
 obtain ⟨h1, ⟨m, hm⟩, h3⟩ := h
 refine ⟨h1.below hb, ⟨m, by rw [hb.cell (p := ⟨0, 0, none⟩) (cell_lt hm)]; exact hm⟩, ?_⟩
 unfold Tz16 at h3 ⊢
 rw [hb.cell (p := ⟨7, 15, none⟩) (cell_lt h3)]
 exact h3
theorem base_below {W0 : World} {ρ : Ren} {A : AW} {w : World} (h : Base W0 ρ A w) : Below W0.heap.size W0 w :=
 ⟨h.os, h.tape, h.output, h.size, fun k hk => (h.keep k hk fun ⟨i, L, B, e, _⟩ => by cases e).1⟩
def OEnt (W0 : World) (f : FuncId) (g : Array Value → AW → Option (Value × AW)) : Prop := ∀ (args : Array Value) (A : AW) (v : Value) (A1 : AW), g args A = some (v, A1) → ∀ (ρ : Ren) (w : World) (args' : Array Value), AR ρ args args' → Rel ρ A w → Base W0 ρ A w →
 Calls Tryz.prog f args' w (fun e w1 => ∃ ρ1 v', e = .returned v' ∧ Rel ρ1 A1 w1 ∧ Fr ρ A w ρ1 A1 w1 ∧ VR ρ1 v v')
theorem AR.one {ρ : Ren} {a : Value} {args' : Array Value} (h : AR ρ ⟨[a]⟩ args') : ∃ a', args' = #[a'] ∧ VR ρ a a' := by
 obtain ⟨l⟩ := args'
 cases h with
 | cons h t => cases t; exact ⟨_, rfl, h⟩
theorem AR.two {ρ : Ren} {a b : Value} {args' : Array Value} (h : AR ρ ⟨[a, b]⟩ args') : ∃ a' b', args' = #[a', b'] ∧ VR ρ a a' ∧ VR ρ b b' := by
 obtain ⟨l⟩ := args'
 cases h with
 | cons h t =>
  cases t with
  | cons h2 t => cases t; exact ⟨_, _, rfl, h, h2⟩
theorem bnd_ok {x : Rat} (h : bndR x = true) : Rb 400 x := by
 unfold bndR at h
 rw [Bool.and_eq_true] at h
 exact ⟨Nat.lt_of_lt_of_le (Nat.le_of_ble_eq_true h.1) (pw_le (by decide)), Nat.lt_of_lt_of_le (Nat.le_of_ble_eq_true h.2) (pw_le (by decide))⟩
theorem ent1 {W0 : World} {f : FuncId} {q : Rat → Rat} (hC : ∀ (w : World) (v : Value) (x y : Rat), y = q x → Ra w v x → Rb 400 x → Calls Tryz.prog f #[v] w (RaPost w y)) : OEnt W0 f (or1 q) := by
 intro args A v A1 h ρ w args' ha hr hb
 unfold or1 at h
 split at h
 ·rename_i a
  split at h
  ·rename_i x hx
   split at h
   ·rename_i hbx
    obtain ⟨a', rfl, va⟩ := ha.one
    generalize hy : q x = y at h
    have e := Option.some.inj h
    refine (hC w a' x y hy.symm (rdR_ok hr hx va) (bnd_ok hbx)).mono ?_
    rintro e1 w1 ⟨v', rfl, hv, hB⟩
    obtain ⟨ρ1, k1, k2, k3⟩ := back_num hr hv hB
    rw [e] at k1 k2 k3
    exact ⟨ρ1, v', rfl, k1, k2, k3⟩
   ·cases h
  ·cases h
 ·cases h
theorem ent2 {W0 : World} {f : FuncId} {q : Rat → Rat → Rat} (hC : ∀ (w : World) (v0 v1 : Value) (x y z : Rat), z = q x y → Ra w v0 x → Ra w v1 y → Rb 400 x → Rb 400 y → Calls Tryz.prog f #[v0, v1] w (RaPost w z)) : OEnt W0 f (or2 q) := by
 intro args A v A1 h ρ w args' ha hr hb
 unfold or2 at h
 split at h
 ·rename_i a b
  split at h
  ·rename_i x y hx hy
   split at h
   ·rename_i hbx
    rw [Bool.and_eq_true] at hbx
    obtain ⟨a', b', rfl, va, vb⟩ := ha.two
    generalize hz : q x y = z at h
    have e := Option.some.inj h
    refine (hC w a' b' x y z hz.symm (rdR_ok hr hx va) (rdR_ok hr hy vb) (bnd_ok hbx.1) (bnd_ok hbx.2)).mono ?_
    rintro e1 w1 ⟨v', rfl, hv, hB⟩
    obtain ⟨ρ1, k1, k2, k3⟩ := back_num hr hv hB
    rw [e] at k1 k2 k3
    exact ⟨ρ1, v', rfl, k1, k2, k3⟩
   ·cases h
  ·cases h
 ·cases h
theorem back_plain {ρ : Ren} {A : AW} {w w1 : World} (h : Rel ρ A w) {v : Value} (hv : VR ρ v v) (hb : Below w.heap.size w w1) : ∃ ρ1 v', Ending.returned v = .returned v' ∧ Rel ρ1 A w1 ∧ Fr ρ A w ρ1 A w1 ∧ VR ρ1 v v' := by
 obtain ⟨r1, f1⟩ := h.below hb
 exact ⟨ρ, v, rfl, r1, f1, hv⟩
theorem ent2v {W0 : World} {f : FuncId} {q : Rat → Rat → Value} (hp : ∀ x y ρ, VR ρ (q x y) (q x y)) (hC : ∀ (w : World) (v0 v1 : Value) (x y : Rat) (z : Value), z = q x y → Ra w v0 x → Ra w v1 y → Rb 400 x → Rb 400 y → Calls Tryz.prog f #[v0, v1] w (fun e w1 => e = .returned z ∧ Below w.heap.size w w1)) : OEnt W0 f (or2v q) := by
 intro args A v A1 h ρ w args' ha hr hb
 unfold or2v at h
 split at h
 ·rename_i a b
  split at h
  ·rename_i x y hx hy
   split at h
   ·rename_i hbx
    rw [Bool.and_eq_true] at hbx
    obtain ⟨a', b', rfl, va, vb⟩ := ha.two
    have hq := hp x y ρ
    generalize hz : q x y = z at h hq
    cases h
    refine (hC w a' b' x y _ hz.symm (rdR_ok hr hx va) (rdR_ok hr hy vb) (bnd_ok hbx.1) (bnd_ok hbx.2)).mono ?_
    rintro e1 w1 ⟨rfl, hB⟩
    exact back_plain hr hq hB
   ·cases h
  ·cases h
 ·cases h
theorem ent_quo {W0 : World} : OEnt W0 163 orQuo := by
 intro args A v A1 h ρ w args' ha hr hb
 unfold orQuo at h
 split at h
 ·rename_i a b
  split at h
  ·rename_i x y hx hy
   split at h
   ·rename_i hbx
    rw [Bool.and_eq_true, Bool.and_eq_true] at hbx
    obtain ⟨a', b', rfl, va, vb⟩ := ha.two
    have hy0 : y ≠ 0 := fun e => by
     have := of_decide_eq_true hbx.2
     rw [e] at this
     exact this rfl
    have hC := qquoR (rdR_ok hr hx va) (rdR_ok hr hy vb) (bnd_ok hbx.1.1) (bnd_ok hbx.1.2) hy0
    generalize hz : x / y = z at h hC
    cases h
    refine hC.mono ?_
    rintro e1 w1 ⟨v', rfl, hv, hB⟩
    obtain ⟨ρ1, k1, k2, k3⟩ := back_num hr hv hB
    exact ⟨ρ1, _, rfl, k1, k2, .tupleL (.cons k3 (.cons (.int _ _) .nil))⟩
   ·cases h
  ·cases h
 ·cases h
theorem ent_right {W0 : World} : OEnt W0 113 orRight := by
 intro args A v A1 h ρ w args' ha hr hb
 unfold orRight at h
 split at h
 ·rename_i a
  split at h
  ·rename_i x hx
   split at h
   ·rename_i hbx
    obtain ⟨a', rfl, va⟩ := ha.one
    cases h
    refine (qrightR (rdR_ok hr hx va) (bnd_ok hbx)).mono ?_
    rintro e1 w1 ⟨rfl, hB⟩
    exact back_plain hr (.bool _) hB
   ·cases h
  ·cases h
 ·cases h
theorem decL_ok : ∀ (f n : Nat) (acc : List UInt8), 0 < f → n < 2 ^ f → decL f n acc = Lib.decDigits n ++ acc
 | 0, n, acc, h, _ => absurd h (Nat.lt_irrefl 0)
 | f + 1, n, acc, _, h => by
  unfold decL
  cases hb : Nat.ble n 9 with
  | true =>
   have := Nat.le_of_ble_eq_true hb
   rw [decDigits_small (by omega)]
   rfl
  | false =>
   have h9 : ¬ n ≤ 9 := fun e => by rw [Nat.ble_eq_true_of_le e] at hb; cases hb
   rw [decDigits_big (by omega)]
   simp only
   rw [decL_ok f (n / 10) _ (by cases f with | zero => omega | succ f => omega) (by rw [Nat.pow_succ] at h; omega), List.append_assoc]
   rfl
theorem dec_ok (n : Nat) : dec n = Lib.decDigits n := by
 unfold dec
 rw [decL_ok _ _ _ (by omega) Nat.lt_log2_self, List.append_nil]
theorem textL_ok (x : Rat) : textL x = ratT (decide (x.num < 0)) x.num.natAbs x.den := by
 unfold textL ratT
 rw [dec_ok, dec_ok]
theorem bytesOf_data {s : ByteArray} {l : List UInt8} (h : s.data.toList = l) : s = bytesOf l := by
 obtain ⟨⟨d⟩⟩ := s
 simp only at h
 subst h
 rfl
theorem ent_text {W0 : World} (hW : BaseOk W0) : OEnt W0 108 orText := by
 intro args A v A1 h ρ w args' ha hr hb
 unfold orText at h
 split at h
 ·rename_i a
  split at h
  ·rename_i x hx
   split at h
   ·rename_i hbx
    obtain ⟨a', rfl, va⟩ := ha.one
    cases h
    have hbb := bnd_ok hbx
    refine (qtext_w (rdR_ok hr hx va) (Nat.lt_of_lt_of_le hbb.1 (pw_le (by decide))) (Nat.lt_of_lt_of_le hbb.2 (pw_le (by decide))) (hW.below (base_below hb)).tab).mono ?_
    rintro e1 w1 ⟨s, rfl, hs, hB⟩
    rw [bytesOf_data hs, ← textL_ok]
    exact back_plain hr (.string _) hB
   ·cases h
  ·cases h
 ·cases h
theorem ent_parse {W0 : World} (hW : BaseOk W0) : OEnt W0 81 orParse := by
 intro args A v A1 h ρ w args' ha hr hb
 unfold orParse at h
 split at h
 ·rename_i s
  split at h
  ·rename_i hc
   obtain ⟨a', rfl, va⟩ := ha.one
   cases va
   have h1 := Nat.le_of_ble_eq_true hc
   have hsz : s.size ≤ 100000 := by have := data_length s; omega
   have hw := qparse_w s w hsz (hW.below (base_below hb)).max
   unfold ReadPost at hw
   split at h
   ·rename_i h20
    have h2 : qcode s.data.toList = 0 := Nat.eq_of_beq_eq_true h20
    split at h
    ·rename_i h30
     have h3 := Nat.le_of_ble_eq_true h30
     generalize hz : mkRat (sg (qneg s.data.toList) (qnum s.data.toList)) (qden s.data.toList) = z at h
     cases h
     refine hw.mono ?_
     intro e1 w1 hp
     rw [if_pos h2] at hp
     obtain ⟨v', rfl, hv, hB⟩ := low_ratE (by omega) hz.symm hp
     obtain ⟨ρ1, k1, k2, k3⟩ := back_num hr hv hB
     exact ⟨ρ1, _, rfl, k1, k2, .tupleL (.cons k3 (.cons (.int _ _) .nil))⟩
    ·cases h
   ·rename_i h20
    have h2 : ¬ qcode s.data.toList = 0 := fun e => by rw [e] at h20; cases h20
    cases h
    refine hw.mono ?_
    intro e1 w1 hp
    rw [if_neg h2] at hp
    obtain ⟨v', rfl, hv, hB⟩ := hp
    obtain ⟨ρ1, k1, k2, k3⟩ := back_z hr hv hB
    exact ⟨ρ1, _, rfl, k1, k2, .tupleL (.cons k3 (.cons (.int _ _) .nil))⟩
  ·cases h
 ·cases h
theorem ent_split {W0 : World} (hW : BaseOk W0) : OEnt W0 12 orSplit := by
 intro args A v A1 h ρ w args' ha hr hb
 unfold orSplit at h
 split at h
 ·rename_i s p
  split at h
  ·rename_i hc
   rw [Bool.and_eq_true, Bool.and_eq_true] at hc
   have h1 := Nat.le_of_ble_eq_true hc.1.1
   have h2 := Nat.le_of_ble_eq_true hc.1.2
   have h3 : _ = _ := Nat.eq_of_beq_eq_true hc.2
   obtain ⟨a', b', rfl, va, vb⟩ := ha.two
   cases va
   cases vb
   obtain ⟨m, hm⟩ := (hW.below (base_below hb)).max
   have hd := Lib.splitB_data p 0 (Lib.countB s p) s
   obtain ⟨l, hl⟩ : ∃ l, l = Lib.splitB p 0 (Lib.countB s p) s := ⟨_, rfl⟩
   have hC := Tryz.strings_Split s p m w (by omega) hm h1
   rw [← hl] at hd hC
   rw [← hd] at h h3
   unfold rowStr at h
   rw [List.length_map] at h h3
   cases h
   refine hC.mono ?_
   rintro e1 w1 ⟨rfl, rfl⟩
   have hsz : w.heap.size ≤ (w.alloc (.cells (l.map Value.string).toArray 9)).heap.size := by simp
   have hnew : (w.alloc (.cells (l.map Value.string).toArray 9)).heap[w.heap.size]? = some (.cells (l.map Value.string).toArray 9) := heap_alloc_new w _
   obtain ⟨r1, r2⟩ := hr.add (w1 := w.alloc (.cells (l.map Value.string).toArray 9)) ⟨w.heap.size, 0, .loose 1, l.length⟩ (.cells ((l.map (·.data.toList)).map fun x => Value.string (bytesOf x)) true (.loose 1)) hsz
    (fun k hk => Below.heap_alloc w _ k hk) ⟨rfl, .inr ⟨_, _, _, hnew, fun j v hj => by
     rw [List.map_map, List.getElem?_map] at hj
     cases hlj : l[j]? with
     | none => rw [hlj] at hj; cases hj
     | some x =>
      rw [hlj] at hj
      cases hj
      refine ⟨.string x, ?_, ?_⟩
      ·simp [hlj]
      ·have : bytesOf x.data.toList = x := (bytesOf_data rfl).symm
       simp only [Function.comp, this]
       exact .string _, fun hro => by cases hro⟩⟩ (fun hm => by simp [mutB] at hm) (fun _ _ j M C g1 g2 g3 => Nat.ne_of_lt (hr.lt g1 g2 (mut_solid g3))) rfl rfl rfl
   refine ⟨_, _, rfl, r1, r2, ?_⟩
   rw [← h3]
   have := VR.sloose (ρ := hr |> fun _ => ρ.up A.next ⟨w.heap.size, 0, .loose 1, l.length⟩) (i := A.next) (k := 0) (L := ⟨w.heap.size, 0, .loose 1, l.length⟩) l.length l.length l.length 1 (by simp [Ren.up]) rfl (Nat.le_refl _) (by simp)
   simpa using this
  ·cases h
 ·cases h
theorem strs_ok : ∀ (l : List Value) (r : List (List UInt8)), strsOf l = some r → l = r.map fun x => Value.string (bytesOf x)
 | [], r, h => by cases h; rfl
 | v :: l, r, h => by
  unfold strsOf at h
  split at h
  ·rename_i heq; cases heq
  ·rename_i s l2 heq
   cases heq
   split at h
   ·rename_i r2 hr2
    cases h
    rw [List.map_cons, ← strs_ok l r2 hr2, ← bytesOf_data rfl]
   ·cases h
  ·cases h
theorem join_ok {ρ : Ren} {A : AW} {w : World} (hr : Rel ρ A w) {i k n c : Nat} {L : Loc} (hL : ρ i = some L) {cs : List Value} (hcs : A.cells? ⟨i, k, none⟩ (n + 1) = some cs) {l : List (List UInt8)} (hl : strsOf cs = some l) (p : ByteArray) (hc : n + 1 ≤ c) (hn : n ≤ 100000) (hj : (Lib.join l p.data.toList).length ≤ 100000) :
  Calls Tryz.prog 106 #[.slice (some ⟨L.b, L.o + k, none⟩) (n + 1) c, .string p] w fun e w' => e = .returned (.string (bytesOf (Lib.join l p.data.toList))) ∧ Below w.heap.size w w' := by
 have h1 := strs_ok cs l hl
 obtain ⟨_, hlen, c0, ro, kd, hg, hat⟩ := cells_at hcs
 have hll : l.length = n + 1 := by rw [← hlen, h1, List.length_map]
 have hB := hr.blk i L _ hL hg
 have hx : (l.map bytesOf).map (·.data.toList) = l := by rw [List.map_map]; exact (List.map_congr_left (fun x _ => rfl)).trans (List.map_id l)
 have hat2 : ∀ j, j < n + 1 → c0[k + j]? = cs[j]? := hat
 obtain ⟨_, hB | ⟨c', e', fr, ho, hcr, _⟩⟩ := hB
 ·obtain ⟨hB0, _⟩ := hB
  have := hat2 0 (by omega)
  rw [hB0, List.getElem?_eq_getElem (show 0 < cs.length by omega)] at this
  simp at this
 ·have hbk : L.b < w.heap.size := by
   rcases Nat.lt_or_ge L.b w.heap.size with h' | h'
   ·exact h'
   ·rw [Array.getElem?_eq_none h'] at ho; cases ho
  have hC := Tryz.strings_Join L.b (L.o + k) c (l.map bytesOf) p w (fun j x hxj => by
   rw [List.getElem?_map] at hxj
   cases hlj : l[j]? with
   | none => rw [hlj] at hxj; cases hxj
   | some y =>
    rw [hlj] at hxj
    cases hxj
    have hjn : j < n + 1 := by
     rcases Nat.lt_or_ge j l.length with h' | h'
     ·omega
     ·rw [List.getElem?_eq_none h'] at hlj; cases hlj
    have h4 : cs[j]? = some (.string (bytesOf y)) := by rw [h1, List.getElem?_map, hlj]; rfl
    obtain ⟨v', hv', hvr⟩ := hcr _ _ ((hat2 j hjn).trans h4)
    cases hvr
    unfold World.cell?
    simp only [ho]
    rw [Nat.add_assoc]
    simpa using hv') hbk (by rw [List.length_map]; omega) (by rw [List.length_map]; omega) (by rw [hx]; omega)
  rw [hx, List.length_map, hll] at hC
  exact hC
theorem ent_join {W0 : World} : OEnt W0 106 orJoin := by
 intro args A v A1 h ρ w args' ha hr hb
 unfold orJoin at h
 split at h
 ·rename_i a n c p
  split at h
  ·rename_i hc
   rw [Bool.and_eq_true] at hc
   have h1 := Nat.le_of_ble_eq_true hc.1
   have h2 := Nat.le_of_ble_eq_true hc.2
   split at h
   ·rename_i cs hcs
    split at h
    ·rename_i l hl
     split at h
     ·rename_i hj
      have h3 := Nat.le_of_ble_eq_true hj
      cases h
      obtain ⟨a', b', rfl, va, vb⟩ := ha.two
      cases vb
      cases va with
      | sexact _ _ hL hk =>
       refine (join_ok hr hL hcs hl p h1 h2 h3).mono ?_
       rintro e1 w1 ⟨rfl, hB⟩
       exact back_plain hr (.string _) hB
      | sloose _ _ c' e hL hk hc' hroom =>
       refine (join_ok hr hL hcs hl p (Nat.le_trans h1 hc') h2 h3).mono ?_
       rintro e1 w1 ⟨rfl, hB⟩
       exact back_plain hr (.string _) hB
     ·cases h
    ·cases h
   ·cases h
  ·cases h
 ·cases h
theorem ent_tz {W0 : World} (hW : BaseOk W0) : OEnt W0 236 orTz := by
 intro args A v A1 h ρ w args' ha hr hb
 unfold orTz at h
 split at h
 ·rename_i x
  split at h
  ·rename_i hx
   obtain ⟨a', rfl, va⟩ := ha.one
   cases va
   have e : x = 16 := of_decide_eq_true hx
   subst e
   cases h
   refine (tz_16 w (hW.below (base_below hb)).tz).mono ?_
   rintro e1 w1 ⟨rfl, rfl⟩
   exact back_plain hr (.int _ _) (Below.refl _ _)
  ·cases h
 ·cases h
theorem orac_ok {W0 : World} (hW : BaseOk W0) : OOk Tryz.prog W0 orac := by
 intro f g h
 have key : OEnt W0 f g := by
  unfold orac at h
  split at h
  ·cases h; exact ent2 fun w v0 v1 x y z hz hx hy bx by_ => hz ▸ qaddR hx hy bx by_
  ·cases h; exact ent2 fun w v0 v1 x y z hz hx hy bx by_ => hz ▸ qsubR hx hy bx by_
  ·cases h; exact ent2 fun w v0 v1 x y z hz hx hy bx by_ => hz ▸ qmulR hx hy bx by_
  ·cases h; exact ent1 fun w v x y hy hx bx => hy ▸ qnegR hx bx
  ·cases h; exact ent1 fun w v x y hy hx bx => hy ▸ qabsR hx bx
  ·cases h; exact ent2v (fun _ _ _ => .int _ _) fun w v0 v1 x y z hz hx hy bx by_ => hz ▸ qcmpR hx hy bx by_
  ·cases h; exact ent2v (fun _ _ _ => .bool _) fun w v0 v1 x y z hz hx hy bx by_ => hz ▸ qsameR hx hy bx by_
  ·cases h; exact ent_quo
  ·cases h; exact ent_right
  ·cases h; exact ent_text hW
  ·cases h; exact ent_parse hW
  ·cases h; exact ent_split hW
  ·cases h; exact ent_join
  ·cases h; exact ent_tz hW
  ·cases h
 exact key
end Go.Proofs.YtglgakcdjdhonaaGreatDoor.Abs
