/- The functions of floats as calls on numbers: what the printed walks give, at natural numbers in memory. -/
import Derived.Test.YtpegcppeobndcaaGreatDoorTj
import Derived.Test.YtpegcppeobndcaaGreatDoorS3
import Derived.Test.YtpegcppeobndcaaGreatDoorS6
set_option linter.unusedVariables false
namespace Go.Proofs.YtpegcppeobndcaaGreatDoor.Fl
open Go.RowKit YtpegcppeobndcaaGreatDoorW.PrintWords YtpegcppeobndcaaGreatDoorW.PrintLast Go.Proofs.YtpegcppeobndcaaGreatDoor.Nn Go.Proofs.YtpegcppeobndcaaGreatDoor.G Go.Proofs.YtpegcppeobndcaaGreatDoor.Giv Go.Proofs.YtpegcppeobndcaaGreatDoor.PFl
theorem nu_any {w : World} {base : Nat} {ok : Nat → Prop} {v : Value} {n : Nat} (h : Kd.R (Kd.int .u32) 94 w base ok v (digs n)) : Nu w v n := Nu_of_RU (Kd.R_mono h fun _ _ => trivial)
theorem shl_nu {w : World} {v : Value} {n : Nat} (h : Nu w v n) (hn : n < pw 900) (s : Nat) (hs : s < 1048576) : Calls Tryz.prog 24 #[v, .int .i64 (s : Int)] w (NuPost w (n * 2 ^ s)) := by
 obtain ⟨A, c, rfl, hc, hC⟩ := h
 refine (sfloat_shl.calls 1 (fun k_ => k_ < w.heap.size) A c (digs n) (s : Int) (digs (n * 2 ^ s)) w (Kd.V_mk hc (Kd.C_F (Kd.heap_int .u32) hC)) (shl_f hn hs)).mono ?_
 rintro e w' ⟨v', rfl, hR, hB⟩
 exact ⟨v', rfl, nu_any hR, hB⟩
def OfPostF (w : World) (f : Nat) (e : Ending) (w' : World) : Prop := ∃ A L c, e = .returned (.agg #[.bool (decide (9223372036854775808 ≤ f)), .slice A L c, .int .i64 (fexp f), .bool false]) ∧ Nu w' (.slice A L c) (fman f) ∧ Below w.heap.size w w'
theorem of_nu {w : World} {f : Nat} (h : ffin f) : Calls Tryz.prog 22 #[.int .u64 (f : Int)] w (OfPostF w f) := by
 refine (sfloat_of.calls (f : Int) _ _ _ _ w (of_f h)).mono ?_
 rintro e w' ⟨v', rfl, hR, hB⟩
 obtain ⟨A, L, c, rfl, hN⟩ := Nu_open (nu_any hR)
 exact ⟨A, L, c, rfl, hN, hB⟩
def IntsPost (w : World) (x : Int) (k : Int) (e : Ending) (w' : World) : Prop := e = .returned (.tuple #[.int .u64 x, .int .i64 k]) ∧ Below w.heap.size w w'
theorem round_nu {w : World} {A : Option Addr} {L c m : Nat} (neg more : Bool) (e mode : Int) (h : Nu w (.slice A L c) m) (h0 : 0 ≤ mode) (h5 : mode < 5) (hm : m < pw 300) (hm0 : m ≠ 0) (he : -4000 ≤ e) (he2 : e ≤ 4000) (hspan : fat m e - e < 10000) (hmo : more = false) :
  Calls Tryz.prog 33 #[.agg #[.bool neg, .slice A L c, .int .i64 e, .bool more], .int .i64 mode] w (IntsPost w ((fround neg m e more mode : Nat) : Int) (fflags neg m e more mode)) := by
 obtain ⟨A', c', e1, hc, hC⟩ := h
 cases e1
 exact sfloat_num_round.calls 5 neg A c (digs m) e more mode _ _ w hC hc (round_f neg more e mode h0 h5 hm hm0 he he2 hspan hmo)
theorem added_nu {w : World} {A B : Option Addr} {L M c d x y : Nat} {mode : Int} (h1 : Nu w (.slice A L c) (fman x)) (h2 : Nu w (.slice B M d) (fman y)) (hx : ffin x) (hy : ffin y) (h0 : 0 ≤ mode) (h5 : mode < 5) :
  Calls Tryz.prog 37 #[.agg #[.bool (decide (9223372036854775808 ≤ x)), .slice A L c, .int .i64 (fexp x), .bool false], .agg #[.bool (decide (9223372036854775808 ≤ y)), .slice B M d, .int .i64 (fexp y), .bool false], .int .i64 mode] w (IntsPost w ((addV x y mode : Nat) : Int) (addF x y mode)) := by
 obtain ⟨A', c', e1, hc, hC⟩ := h1
 cases e1
 obtain ⟨B', d', e2, hd, hD⟩ := h2
 cases e2
 exact sfloat_added.calls 5 _ A c (digs (fman x)) (fexp x) false _ B d (digs (fman y)) (fexp y) false mode _ _ w hC hc hD hd (added_f hx hy h0 h5)
def CmpPostF (w : World) (a b : Nat) (e : Ending) (w' : World) : Prop := e = .returned (.tuple #[.int .i64 (fsign a b), .bool true]) ∧ Drawn0 w w'
theorem cmp_nu {w : World} {a b : Nat} (ha : fok a) (hb : fok b) : Calls Tryz.prog 13 #[.int .u64 (a : Int), .int .u64 (b : Int)] w (CmpPostF w a b) := sfloat_Cmp.calls 1 (a : Int) (b : Int) _ _ w (Cmp_f ha hb)
theorem nan_nu {w : World} {a : Nat} (ha : fok a) : Calls Tryz.prog 20 #[.int .u64 (a : Int)] w (fun e w' => e = .returned (.bool false) ∧ Drawn0 w w') := sfloat_nan.calls (a : Int) _ w (nan_f ha)
theorem inf_nu {w : World} {a : Nat} (ha : ffin a) : Calls Tryz.prog 21 #[.int .u64 (a : Int)] w (fun e w' => e = .returned (.bool false) ∧ Drawn0 w w') := sfloat_infinite.calls (a : Int) _ w (inf_f ha)
end Go.Proofs.YtpegcppeobndcaaGreatDoor.Fl
