-- Written by merge.py, a program of this session's: Bulk PWx0 PWx20 PWx21 PWx22 PWx13 PWx15 PWx23 PWx24 PWx25 PWx26 PWx27 PWx28 PWx4 PWx5 PWx30 PWx31 PWx32 PWx33
import Derived.Test.YtijbkiajhicooabDoorRows
import Derived.Test.YtijbkiajhicooabDoorProg
import Derived.Below
import Derived.Deep.Draws
import Derived.Deep.AppendLies
import Derived.Maps.AppendAt
import Derived.OwnWalk
import Derived.Laws.BytesArg
import Derived.Laws.MakeOwn
import Derived.Laws.OwnMore
import Derived.Deep.OwnRows
import Derived.Tactics
import Derived.Lib.ConvBytes
import Derived.Laws.Slices
import Derived.WalkKit
import Derived.KernelRfl
import Derived.RowKit3
import Derived.Deep.LoopGhost
import Derived.Deep.QuietTactic
import Derived.BigQuiet
import Derived.WideLaws
import Derived.Deep.DeepCutAuto
import Derived.Deep.CutBlock
import Derived.Deep.RegionHeld3
import Derived.Laws.Rows
import Derived.Lib.AppendStr
import Derived.ArgAppend
import Derived.Laws.IdiomCopy
import Derived.OrdersHeld
import Derived.Laws.BitsLemmas
import Derived.RowKit
import Derived.Test.YtijbkiajhicooabDoorWWords
import Derived.Test.YtijbkiajhicooabDoorWLast
import Derived.Test.YtijbkiajhicooabDoorWTab
import Derived.Test.YtijbkiajhicooabDoorWFour
import Derived.Test.YtijbkiajhicooabDoorWQPut
import Derived.Test.YtijbkiajhicooabDoorWApart
import Derived.Test.YtijbkiajhicooabDoorWArr
import Derived.Test.YtijbkiajhicooabDoorWZeros
import Derived.Test.YtijbkiajhicooabDoorWFoot
import Derived.Test.YtijbkiajhicooabDoorWKept
import Derived.Test.YtijbkiajhicooabDoorWShare
import Derived.Test.YtijbkiajhicooabDoorWN
import Derived.Test.YtijbkiajhicooabDoorWFootNe
import Derived.Test.YtijbkiajhicooabDoorWAt
import Derived.Test.YtijbkiajhicooabDoorWEqStruct
import Derived.Test.YtijbkiajhicooabDoorWRepsOne
import Derived.Test.YtijbkiajhicooabDoorWInv
import Derived.Test.YtijbkiajhicooabDoorWInvWords
import Derived.Test.YtijbkiajhicooabDoorWGuard
import Derived.Test.YtijbkiajhicooabDoorWNEv
import Derived.Test.YtijbkiajhicooabDoorWMore
import Derived.Lib.OthersKept
import Derived.LoopN
import Derived.Maps.OwnIn
import Derived.RangeFuncNested
import Derived.RangeFuncBound
import Derived.RangeFuncCalls
import Derived.RangeFuncLeaves
import Derived.Shelf.Abstract
import Derived.Shelf.RegionOpen
import Derived.OwnWalkIn
import Derived.TacticsInMore
import Derived.LoopNIn
import Derived.LoopIn
namespace Go.Proofs.YtijbkiajhicooabDoor.PW
theorem bulk_pos {H : Type} : ∀ d : DataW H, 1 ≤ Rows.uptoBulk d
 | .lit l => by cases l <;> simp [Rows.uptoBulk]
 | .nil => by simp [Rows.uptoBulk]
 | .ptr _ => by simp [Rows.uptoBulk]
 | .slice _ _ => by simp [Rows.uptoBulk]
 | .agg _ => by simp [Rows.uptoBulk]
 | .iface _ _ => by simp [Rows.uptoBulk]
 | .map _ => by simp [Rows.uptoBulk]
 | .held _ => by simp [Rows.uptoBulk]
theorem bulk_length {H : Type} : ∀ l : List (DataW H), l.length ≤ Rows.uptoBulkAll l
 | [] => Nat.zero_le _
 | d :: l => by
  have h1 := bulk_pos d
  have h2 := bulk_length l
  simp only [Rows.uptoBulkAll, List.length_cons]
  omega
theorem bulk_slice_le {H : Type} (xs ys : List (DataW H)) : xs.length + ys.length + 1 ≤ Rows.uptoBulk (.slice xs ys) := by
 have h1 := bulk_length xs
 have h2 := bulk_length ys
 simp only [Rows.uptoBulk]
 omega
end Go.Proofs.YtijbkiajhicooabDoor.PW

namespace Go.Proofs.YtijbkiajhicooabDoor.PW
open Go.RowKit Go.Proofs.YtijbkiajhicooabDoorW.PrintWords Go.Proofs.YtijbkiajhicooabDoorW.PrintLast Go.Proofs.YtijbkiajhicooabDoorW.PrintMore
attribute [local go_sem] max2_int min2_int max_two min_two max_three min_three max_four min_four   -- for this text's walks alone
set_option linter.unusedVariables false
set_option linter.unusedSimpArgs false



def errW : Option Int → Value
 | none => .nilIface
 | some c => .iface 0 (.int .i64 c)
theorem errW_none : errW none = .nilIface := rfl
theorem errW_some (c : Int) : errW (some c) = .iface 0 (.int .i64 c) := rfl

theorem info3 : (Tryd.prog.info? 3).map (fun i => (i.zero, i.size, i.bytes)) = some (some (.int .i64 0), 1, 8) := by kernel_rfl
theorem info5 : (Tryd.prog.info? 5).map (fun i => (i.zero, i.size, i.bytes)) = some (some (.int .u8 0), 1, 1) := by kernel_rfl
theorem info44 : (Tryd.prog.info? 44).map (fun i => (i.zero, i.size, i.bytes)) = some (some (.agg #[(.int .i64 0), (.int .i64 0)]), 2, 16) := by kernel_rfl
theorem info62 : (Tryd.prog.info? 62).map (fun i => (i.zero, i.size, i.bytes)) = some (some (.agg #[(.int .i64 0), (.int .i64 0), (.int .i64 0)]), 3, 24) := by kernel_rfl
theorem info109 : (Tryd.prog.info? 109).map (fun i => (i.zero, i.size, i.bytes)) = some (some (.agg #[(.int .i64 0), (.int .i64 0), (.int .i64 0)]), 3, 24) := by kernel_rfl
theorem info153 : (Tryd.prog.info? 153).map (fun i => (i.zero, i.size, i.bytes)) = some (some (.agg #[(.int .i64 0), (.int .i64 0), (.int .i64 0), (.int .i64 0)]), 4, 32) := by kernel_rfl
-- the values' own types
structure S44 where
 f0 : Int
 f1 : Int
def z44 : S44 := ⟨(0 : Int), (0 : Int)⟩
def k44 : Kd S44 := Kd.iso (Kd.pair (Kd.int .i64) (Kd.int .i64)) (fun x : S44 => (x.f0, x.f1))
theorem k44_open {w : World} {x : S44} {cs : List Value} (h : k44.K w x cs) : cs = [.int .i64 x.f0, .int .i64 x.f1] := by
 obtain ⟨_, _, rfl, rfl, rfl⟩ := h
 exact rfl
theorem k44_mkM (w : World) (base : Nat) (ok : Nat → Prop) (x : S44)  : k44.M w base ok x [.int .i64 x.f0, .int .i64 x.f1] := ⟨[.int .i64 x.f0], [.int .i64 x.f1], rfl, rfl, rfl⟩
def rd_T44 (xs : List S44) (i : Int) : S44 := xs.getD i.toNat z44
theorem at_T44 {w : World} {A : Option Addr} {n : Nat} {xs : List S44} (h : Kd.C k44 w A n xs) (i : Int) (h0 : 0 ≤ i) (h1 : i < n) : ∃ ad , A = some ad ∧ w.cell? (ad.add (i.toNat * 2)) = some (.int .i64 (rd_T44 xs i).f0) ∧ w.cell? ⟨(ad.add (i.toNat * 2)).block, (ad.add (i.toNat * 2)).off + 1, none⟩ = some (.int .i64 (rd_T44 xs i).f1) := by
 obtain ⟨ad, c, e, _, hK, hc0⟩ := Kd.C_get h z44 i h0 h1
 have hc : ∀ j u, c[j]? = some u → w.cell? (ad.add (i.toNat * 2 + j)) = some u := hc0
 obtain rfl := k44_open hK
 exact ⟨ad, e, hc 0 _ rfl, by rw [← add_field _ _ 1 (by omega)]; exact hc 1 _ rfl⟩

structure S109 where
 f0 : S44
 f1 : Int
def z109 : S109 := ⟨z44, (0 : Int)⟩
def k109 : Kd S109 := Kd.iso (Kd.pair k44 (Kd.int .i64)) (fun x : S109 => (x.f0, x.f1))
theorem k109_open {w : World} {x : S109} {cs : List Value} (h : k109.K w x cs) : cs = [.int .i64 x.f0.f0, .int .i64 x.f0.f1, .int .i64 x.f1] := by
 obtain ⟨_, _, rfl, s0, rfl⟩ := h
 obtain rfl := k44_open s0
 exact rfl
theorem k109_mkM (w : World) (base : Nat) (ok : Nat → Prop) (x : S109)  : k109.M w base ok x [.int .i64 x.f0.f0, .int .i64 x.f0.f1, .int .i64 x.f1] := ⟨[.int .i64 x.f0.f0, .int .i64 x.f0.f1], [.int .i64 x.f1], rfl, (k44_mkM w base ok x.f0 ), rfl⟩
def rd_T109 (xs : List S109) (i : Int) : S109 := xs.getD i.toNat z109
theorem at_T109 {w : World} {A : Option Addr} {n : Nat} {xs : List S109} (h : Kd.C k109 w A n xs) (i : Int) (h0 : 0 ≤ i) (h1 : i < n) : ∃ ad , A = some ad ∧ w.cell? (ad.add (i.toNat * 3)) = some (.int .i64 (rd_T109 xs i).f0.f0) ∧ w.cell? ⟨(ad.add (i.toNat * 3)).block, (ad.add (i.toNat * 3)).off + 1, none⟩ = some (.int .i64 (rd_T109 xs i).f0.f1) ∧ w.cell? ⟨(ad.add (i.toNat * 3)).block, (ad.add (i.toNat * 3)).off + 2, none⟩ = some (.int .i64 (rd_T109 xs i).f1) := by
 obtain ⟨ad, c, e, _, hK, hc0⟩ := Kd.C_get h z109 i h0 h1
 have hc : ∀ j u, c[j]? = some u → w.cell? (ad.add (i.toNat * 3 + j)) = some u := hc0
 obtain rfl := k109_open hK
 exact ⟨ad, e, hc 0 _ rfl, by rw [← add_field _ _ 1 (by omega)]; exact hc 1 _ rfl, by rw [← add_field _ _ 2 (by omega)]; exact hc 2 _ rfl⟩

structure S153 where
 f0 : Int
 f1 : Int
 f2 : Int
 f3 : Int
def z153 : S153 := ⟨(0 : Int), (0 : Int), (0 : Int), (0 : Int)⟩
def k153 : Kd S153 := Kd.iso (Kd.pair (Kd.int .i64) (Kd.pair (Kd.int .i64) (Kd.pair (Kd.int .i64) (Kd.int .i64)))) (fun x : S153 => (x.f0, x.f1, x.f2, x.f3))
theorem k153_open {w : World} {x : S153} {cs : List Value} (h : k153.K w x cs) : cs = [.int .i64 x.f0, .int .i64 x.f1, .int .i64 x.f2, .int .i64 x.f3] := by
 obtain ⟨_, _, rfl, rfl, ⟨_, _, rfl, rfl, ⟨_, _, rfl, rfl, rfl⟩⟩⟩ := h
 exact rfl
theorem k153_mkM (w : World) (base : Nat) (ok : Nat → Prop) (x : S153)  : k153.M w base ok x [.int .i64 x.f0, .int .i64 x.f1, .int .i64 x.f2, .int .i64 x.f3] := ⟨[.int .i64 x.f0], [.int .i64 x.f1, .int .i64 x.f2, .int .i64 x.f3], rfl, rfl, ⟨[.int .i64 x.f1], [.int .i64 x.f2, .int .i64 x.f3], rfl, rfl, ⟨[.int .i64 x.f2], [.int .i64 x.f3], rfl, rfl, rfl⟩⟩⟩
def rd_T153 (xs : List S153) (i : Int) : S153 := xs.getD i.toNat z153
theorem at_T153 {w : World} {A : Option Addr} {n : Nat} {xs : List S153} (h : Kd.C k153 w A n xs) (i : Int) (h0 : 0 ≤ i) (h1 : i < n) : ∃ ad , A = some ad ∧ w.cell? (ad.add (i.toNat * 4)) = some (.int .i64 (rd_T153 xs i).f0) ∧ w.cell? ⟨(ad.add (i.toNat * 4)).block, (ad.add (i.toNat * 4)).off + 1, none⟩ = some (.int .i64 (rd_T153 xs i).f1) ∧ w.cell? ⟨(ad.add (i.toNat * 4)).block, (ad.add (i.toNat * 4)).off + 2, none⟩ = some (.int .i64 (rd_T153 xs i).f2) ∧ w.cell? ⟨(ad.add (i.toNat * 4)).block, (ad.add (i.toNat * 4)).off + 3, none⟩ = some (.int .i64 (rd_T153 xs i).f3) := by
 obtain ⟨ad, c, e, _, hK, hc0⟩ := Kd.C_get h z153 i h0 h1
 have hc : ∀ j u, c[j]? = some u → w.cell? (ad.add (i.toNat * 4 + j)) = some u := hc0
 obtain rfl := k153_open hK
 exact ⟨ad, e, hc 0 _ rfl, by rw [← add_field _ _ 1 (by omega)]; exact hc 1 _ rfl, by rw [← add_field _ _ 2 (by omega)]; exact hc 2 _ rfl, by rw [← add_field _ _ 3 (by omega)]; exact hc 3 _ rfl⟩

structure S62 where
 f0 : Int
 f1 : Int
 f2 : Int
def z62 : S62 := ⟨(0 : Int), (0 : Int), (0 : Int)⟩
def k62 : Kd S62 := Kd.iso (Kd.pair (Kd.int .i64) (Kd.pair (Kd.int .i64) (Kd.int .i64))) (fun x : S62 => (x.f0, x.f1, x.f2))
theorem k62_open {w : World} {x : S62} {cs : List Value} (h : k62.K w x cs) : cs = [.int .i64 x.f0, .int .i64 x.f1, .int .i64 x.f2] := by
 obtain ⟨_, _, rfl, rfl, ⟨_, _, rfl, rfl, rfl⟩⟩ := h
 exact rfl
theorem k62_mkM (w : World) (base : Nat) (ok : Nat → Prop) (x : S62)  : k62.M w base ok x [.int .i64 x.f0, .int .i64 x.f1, .int .i64 x.f2] := ⟨[.int .i64 x.f0], [.int .i64 x.f1, .int .i64 x.f2], rfl, rfl, ⟨[.int .i64 x.f1], [.int .i64 x.f2], rfl, rfl, rfl⟩⟩
def rd_T62 (xs : List S62) (i : Int) : S62 := xs.getD i.toNat z62
theorem at_T62 {w : World} {A : Option Addr} {n : Nat} {xs : List S62} (h : Kd.C k62 w A n xs) (i : Int) (h0 : 0 ≤ i) (h1 : i < n) : ∃ ad , A = some ad ∧ w.cell? (ad.add (i.toNat * 3)) = some (.int .i64 (rd_T62 xs i).f0) ∧ w.cell? ⟨(ad.add (i.toNat * 3)).block, (ad.add (i.toNat * 3)).off + 1, none⟩ = some (.int .i64 (rd_T62 xs i).f1) ∧ w.cell? ⟨(ad.add (i.toNat * 3)).block, (ad.add (i.toNat * 3)).off + 2, none⟩ = some (.int .i64 (rd_T62 xs i).f2) := by
 obtain ⟨ad, c, e, _, hK, hc0⟩ := Kd.C_get h z62 i h0 h1
 have hc : ∀ j u, c[j]? = some u → w.cell? (ad.add (i.toNat * 3 + j)) = some u := hc0
 obtain rfl := k62_open hK
 exact ⟨ad, e, hc 0 _ rfl, by rw [← add_field _ _ 1 (by omega)]; exact hc 1 _ rfl, by rw [← add_field _ _ 2 (by omega)]; exact hc 2 _ rfl⟩

end Go.Proofs.YtijbkiajhicooabDoor.PW

namespace Go.Proofs.YtijbkiajhicooabDoor.PW
open Go.RowKit Go.Proofs.YtijbkiajhicooabDoorW.PrintWords Go.Proofs.YtijbkiajhicooabDoorW.PrintLast Go.Proofs.YtijbkiajhicooabDoorW.PrintMore
attribute [local go_sem] max2_int min2_int max_two min_two max_three min_three max_four min_four   -- for this text's walks alone
set_option linter.unusedVariables false
set_option linter.unusedSimpArgs false

def stringslite_HasPrefix.f (a0 : ByteArray) (a1 : ByteArray) : Option (Bool) := if (a0.size : Int) ≥ (a1.size : Int) then (if 0 ≤ (a1.size : Int) then (if (a1.size : Int) ≤ (a0.size : Int) then (some ((a0.extract 0 ((a1.size : Int) : Int).toNat).toList == a1.toList)) else (none)) else (none)) else (some false)
set_option maxHeartbeats 8000000 in
set_option maxRecDepth 100000 in
theorem stringslite_HasPrefix.calls (a0 : ByteArray) (a1 : ByteArray) (r : Bool) (w : World) (h : stringslite_HasPrefix.f a0 a1 = some r) :
  Calls Tryd.prog 109 #[.string a0, .string a1] w fun e w' => e = .returned (.bool r) ∧ Drawn0 w w' := by
 have H : (if (a0.size : Int) ≥ (a1.size : Int) then (if 0 ≤ (a1.size : Int) then (if (a1.size : Int) ≤ (a0.size : Int) then (some ((a0.extract 0 ((a1.size : Int) : Int).toNat).toList == a1.toList)) else (none)) else (none)) else (some false)) = some r := h
 clear h
 by_cases c3 : (a0.size : Int) ≥ (a1.size : Int)
 ·rw [if_pos c3] at H
  have c3b0 : decide ((a1.size : Int) ≤ (a0.size : Int)) = true := decide_eq_true c3
  have c3b1 : decide (a1.size ≤ a0.size) = true := decide_eq_true (Int.ofNat_le.mp c3)
  clear c3
  by_cases c4 : 0 ≤ (a1.size : Int)
  ·rw [if_pos c4] at H
   have c4b0 := eq_true c4
   have c4b1 : decide (0 ≤ (a1.size : Int)) = true := decide_eq_true c4
   clear c4
   by_cases c5 : (a1.size : Int) ≤ (a0.size : Int)
   ·rw [if_pos c5] at H
    have c5b0 := eq_true c5
    have c5b1 : decide ((a1.size : Int) ≤ (a0.size : Int)) = true := decide_eq_true c5
    clear c5
    obtain rfl := Option.some.inj H
    go_enter Tryd.func109, Tryd.ntmps109
    go_wp2
    go_ret
    exact ⟨by first | rfl | (simp; done) | (simp [*]; done), by repeat (first | exact Drawn0.refl _ | apply Drawn0.step)⟩
   ·rw [if_neg c5] at H
    exact absurd H (by simp)
  ·rw [if_neg c4] at H
   exact absurd H (by simp)
 ·rw [if_neg c3] at H
  have c3b0 : decide ((a1.size : Int) ≤ (a0.size : Int)) = false := decide_eq_false c3
  have c3b1 : decide (a1.size ≤ a0.size) = false := decide_eq_false (fun h => c3 (Int.ofNat_le.mpr h))
  clear c3
  obtain rfl := Option.some.inj H
  go_enter Tryd.func109, Tryd.ntmps109
  go_wp2
  go_ret
  exact ⟨by first | rfl | (simp; done) | (simp [*]; done), by repeat (first | exact Drawn0.refl _ | apply Drawn0.step)⟩

end Go.Proofs.YtijbkiajhicooabDoor.PW

namespace Go.Proofs.YtijbkiajhicooabDoor.PW
open Go.RowKit Go.Proofs.YtijbkiajhicooabDoorW.PrintWords Go.Proofs.YtijbkiajhicooabDoorW.PrintLast Go.Proofs.YtijbkiajhicooabDoorW.PrintMore
attribute [local go_sem] max2_int min2_int max_two min_two max_three min_three max_four min_four   -- for this text's walks alone
set_option linter.unusedVariables false
set_option linter.unusedSimpArgs false

def strings_HasPrefix.f (a0 : ByteArray) (a1 : ByteArray) : Option (Bool) := (stringslite_HasPrefix.f a0 a1).bind fun t141 => (some t141)
set_option maxHeartbeats 8000000 in
set_option maxRecDepth 100000 in
theorem strings_HasPrefix.calls (a0 : ByteArray) (a1 : ByteArray) (r : Bool) (w : World) (h : strings_HasPrefix.f a0 a1 = some r) :
  Calls Tryd.prog 101 #[.string a0, .string a1] w fun e w' => e = .returned (.bool r) ∧ Drawn0 w w' := by
 have H : ((stringslite_HasPrefix.f a0 a1).bind fun t141 => (some t141)) = some r := h
 clear h
 replace H := Option.bind_eq_some_iff.mp H
 obtain ⟨t141, A30, H⟩ := H
 replace H : (some t141) = some r := H
 have A3 := Aside0.mk A30
 clear A30
 obtain rfl := Option.some.inj H
 go_enter Tryd.func101, Tryd.ntmps101
 go_wp2_with (first | ((with_reducible refine gate_callee (f := 109) rfl ?_); refine goesL_ (some 7) rfl rfl Tryd.func109 (by kernel_rfl) rfl #[.string a0, .string a1] rfl (by (try simp only [List.map_toArray, List.map_cons, List.map_nil]); first | done | rfl | (simp only [List.length_drop, List.length_take]; rfl)) ?_; (with_reducible refine (stringslite_HasPrefix.calls a0 a1 t141 _ A3.out).mono ?_); rintro e w' ⟨rfl, ⟨nd, rfl⟩⟩; refine ⟨_, rfl, ?_⟩))
 go_ret
 exact ⟨by first | rfl | (simp; done) | (simp [*]; done), by repeat (first | exact Drawn0.refl _ | apply Drawn0.step)⟩

end Go.Proofs.YtijbkiajhicooabDoor.PW

namespace Go.Proofs.YtijbkiajhicooabDoor.PW
open Go.RowKit Go.Proofs.YtijbkiajhicooabDoorW.PrintWords Go.Proofs.YtijbkiajhicooabDoorW.PrintLast Go.Proofs.YtijbkiajhicooabDoorW.PrintMore
attribute [local go_sem] max2_int min2_int max_two min_two max_three min_three max_four min_four   -- for this text's walks alone
set_option linter.unusedVariables false
set_option linter.unusedSimpArgs false

/-- What the package-level variable step.bad holds. -/
def LaidBad (w : World) : Prop := 0 < w.heap.size ∧ w.cell? ⟨0, 0, none⟩ = some (.int .i32 65533) ∧ w.cell? ⟨0, 1, none⟩ = some (.int .i64 1) ∧ w.cell? ⟨0, 2, none⟩ = some (.bool false)
theorem laid_block {w W : World} (h : LaidBad w) (e : W.heap[0]? = w.heap[0]?) : LaidBad W := by
 have hc : ∀ i : Nat, W.cell? ⟨0, i, none⟩ = w.cell? ⟨0, i, none⟩ := fun i => by simp [World.cell?, e]
 have hl : 0 < W.heap.size := by
  rcases Nat.eq_zero_or_pos W.heap.size with hz | hz
  ·rw [Array.getElem?_eq_none (by omega), Array.getElem?_eq_getElem h.1] at e
   cases e
  ·exact hz
 exact ⟨hl, by rw [hc]; exact h.2.1, by rw [hc]; exact h.2.2.1, by rw [hc]; exact h.2.2.2⟩
theorem laid_lt {w : World} (h : LaidBad w) : 0 < w.heap.size := h.1
theorem laid_below {w W : World} (h : LaidBad w) (hb : Below w.heap.size w W) : LaidBad W := laid_block h (hb.block 0 h.1)
theorem laid_cell {w : World} (h : LaidBad w) : w.cell? ⟨0, 0, none⟩ = some (.int .i32 65533) ∧ w.cell? ⟨0, 1, none⟩ = some (.int .i64 1) ∧ w.cell? ⟨0, 2, none⟩ = some (.bool false) := h.2

def hasFD (s : ByteArray) : Bool := decide (3 ≤ s.size) && ((s.extract 0 3).toList == ([239, 191, 189] : List UInt8))
/-- The step with which a string begins. -/
def firstOf (s : ByteArray) : Int × Int × Bool :=
 if s.size = 0 then (65533, 1, false)
 else if (Utf8.decode s 0).1 = 65533 then (if hasFD s then (65533, 3, true) else (65533, 1, false))
 else ((Utf8.decode s 0).1, ((Utf8.encode ((Utf8.decode s 0).1 : Int)).size : Int), true)
def step_first.f (a0 : ByteArray) : Option (Int × Int × Bool) := some (firstOf a0)

theorem blk_put3 {W : World} {g : Nat} {t : TypeId} {a b c : Value} (x y z : Value) (h : W.heap[g]? = some (.cells #[a, b, c] t (0, 0))) :
  (((W.setCell ⟨g, 0, none⟩ x).setCell ⟨g, 1, none⟩ y).setCell ⟨g, 2, none⟩ z).heap[g]? = some (.cells #[x, y, z] t (0, 0)) :=
 blk_put (blk_put (blk_put h 0 x (cs' := #[x, b, c]) rfl) 1 y (cs' := #[x, y, c]) rfl) 2 z rfl
theorem below_put3 {w W : World} {g : Nat} (h : Below w.heap.size w W) (hg : w.heap.size ≤ g) (x y z : Value) :
  Below w.heap.size w (((W.setCell ⟨g, 0, none⟩ x).setCell ⟨g, 1, none⟩ y).setCell ⟨g, 2, none⟩ z) := below_set (below_set (below_set h hg) hg) hg

set_option maxRecDepth 100000 in
theorem step_first.bad (s : ByteArray) (w : World) (hL : LaidBad w) (hs : s.size = 0) :
  Calls Tryd.prog 84 #[.string s] w fun e w' => e = .returned (.agg #[.int .i32 65533, .int .i64 1, .bool false]) ∧ Below w.heap.size w w' := by
 have hu := Tryd.underlying50
 have hnx := run_next_end (P := Tryd.prog) (w.alloc (.cells #[.int .i32 0, .int .i64 0, .bool false] 50)) s 0 0 (by omega)
 simp only [World.size_alloc] at hnx
 clear hs
 have hb : Below w.heap.size w ((w.alloc (.cells #[.int .i32 0, .int .i64 0, .bool false] 50)).iter s 0) := ((Below.refl _ _).alloc (Nat.le_refl _) _).alloc (by simp) _
 obtain ⟨h0, h1, h2⟩ := laid_cell (laid_below hL hb)
 have hg : ((w.alloc (.cells #[.int .i32 0, .int .i64 0, .bool false] 50)).iter s 0).heap[w.heap.size]? = some (.cells #[.int .i32 0, .int .i64 0, .bool false] 50 (0, 0)) := blk_alloc (blk_new w _) _
 have c0 := blk_cell hg 0
 have c1 := blk_cell hg 1
 have c2 := blk_cell hg 2
 have f0 := blk_frozen hg 0
 have f1 := blk_frozen hg 1
 have f2 := blk_frozen hg 2
 have HG := Aside0.mk hg
 have HB := Aside0.mk hb
 clear hg hb hL
 go_enter Tryd.func84, Tryd.ntmps84
 go_wp2
 generalize (w.alloc (.cells #[.int .i32 0, .int .i64 0, .bool false] 50)).iter s 0 = W at *
 refine wp_loop_rounds 1 ?_
 rw [rounds_succ]
 go_wp2
 refine bodyPost_ret (results_cell_row rfl _ _ w.heap.size 50 #[.int .i32 65533, .int .i64 1, .bool false] (0, 0) _ rfl (blk_put3 _ _ _ HG.out) Tryd.underlying50 rfl (by kernel_rfl)) rfl ?_
 exact ⟨rfl, below_put3 HB.out (Nat.le_refl _) _ _ _⟩

set_option maxRecDepth 100000 in
theorem step_first.whole (s : ByteArray) (w : World) (hL : LaidBad w) (hs : 0 < s.size) (hr : (Utf8.decode s 0).1 ≠ 65533) :
  Calls Tryd.prog 84 #[.string s] w fun e w' => e = .returned (.agg #[.int .i32 ((Utf8.decode s 0).1 : Int), .int .i64 ((Utf8.encode ((Utf8.decode s 0).1 : Int)).size : Int), .bool true]) ∧ Below w.heap.size w w' := by
 have hu := Tryd.underlying50
 have hu9 := Tryd.underlying9
 have hu21 := Tryd.underlying21
 have hnx := run_next_any (P := Tryd.prog) (w.alloc (.cells #[.int .i32 0, .int .i64 0, .bool false] 50)) s 0 0 hs
 simp only [World.size_alloc] at hnx
 generalize (Utf8.decode s 0).1 = r at *
 generalize (Utf8.decode s 0).2 = n at *
 have hr1 : (((r : Nat) : Int) == 65533) = false := by simp; omega
 clear hs hr
 have hb : Below w.heap.size w ((w.alloc (.cells #[.int .i32 0, .int .i64 0, .bool false] 50)).iter s (0 + n)) := ((Below.refl _ _).alloc (Nat.le_refl _) _).alloc (by simp) _
 have hg : ((w.alloc (.cells #[.int .i32 0, .int .i64 0, .bool false] 50)).iter s (0 + n)).heap[w.heap.size]? = some (.cells #[.int .i32 0, .int .i64 0, .bool false] 50 (0, 0)) := blk_alloc (blk_new w _) _
 have c0 := blk_cell hg 0
 have c1 := blk_cell hg 1
 have c2 := blk_cell hg 2
 have f0 := blk_frozen hg 0
 have f1 := blk_frozen hg 1
 have f2 := blk_frozen hg 2
 have HG := Aside0.mk hg
 have HB := Aside0.mk hb
 clear hg hb hL
 go_enter Tryd.func84, Tryd.ntmps84
 go_wp2
 generalize (w.alloc (.cells #[.int .i32 0, .int .i64 0, .bool false] 50)).iter s (0 + n) = W at *
 refine wp_loop_rounds 1 ?_
 rw [rounds_succ]
 go_wp2
 refine bodyPost_ret (results_cell_row rfl _ _ w.heap.size 50 #[.int .i32 r, .int .i64 ((Utf8.encode (r : Int)).size : Int), .bool true] (0, 0) _ rfl (blk_put3 _ _ _ HG.out) Tryd.underlying50 rfl (by kernel_rfl)) rfl ?_
 exact ⟨rfl, below_put3 HB.out (Nat.le_refl _) _ _ _⟩

theorem hasFD_of (s : ByteArray) : strings_HasPrefix.f s (⟨#[239, 191, 189]⟩ : ByteArray) = some (hasFD s) := by
 unfold strings_HasPrefix.f stringslite_HasPrefix.f hasFD
 have h3 : ((⟨#[239, 191, 189]⟩ : ByteArray).size : Int) = 3 := rfl
 rw [h3]
 by_cases h : 3 ≤ s.size
 ·rw [if_pos (by omega), if_pos (by omega), if_pos (by omega), decide_eq_true h]
  simp only [Option.bind_some, Bool.true_and]
  rw [show (⟨#[239, 191, 189]⟩ : ByteArray).toList = ([239, 191, 189] : List UInt8) by kernel_rfl]
  rfl
 ·rw [if_neg (by omega), decide_eq_false h]
  rfl
set_option maxRecDepth 100000 in
theorem step_first.fffd (s : ByteArray) (w : World) (hL : LaidBad w) (hs : 0 < s.size) (hr : (Utf8.decode s 0).1 = 65533) (hp : hasFD s = true) :
  Calls Tryd.prog 84 #[.string s] w fun e w' => e = .returned (.agg #[.int .i32 ((Utf8.decode s 0).1 : Int), .int .i64 ((Utf8.encode ((Utf8.decode s 0).1 : Int)).size : Int), .bool true]) ∧ Below w.heap.size w w' := by
 have hu := Tryd.underlying50
 have hu9 := Tryd.underlying9
 have hu21 := Tryd.underlying21
 have HP := Aside0.mk ((hasFD_of s).trans (congrArg some hp))
 have hnx := run_next_any (P := Tryd.prog) (w.alloc (.cells #[.int .i32 0, .int .i64 0, .bool false] 50)) s 0 0 hs
 simp only [World.size_alloc] at hnx
 generalize (Utf8.decode s 0).1 = r at *
 generalize (Utf8.decode s 0).2 = n at *
 have hr1 : (((r : Nat) : Int) == 65533) = true := by rw [hr]; rfl
 clear hs hr hp
 have hb : Below w.heap.size w ((w.alloc (.cells #[.int .i32 0, .int .i64 0, .bool false] 50)).iter s (0 + n)) := ((Below.refl _ _).alloc (Nat.le_refl _) _).alloc (by simp) _
 have hg : ((w.alloc (.cells #[.int .i32 0, .int .i64 0, .bool false] 50)).iter s (0 + n)).heap[w.heap.size]? = some (.cells #[.int .i32 0, .int .i64 0, .bool false] 50 (0, 0)) := blk_alloc (blk_new w _) _
 have c0 := blk_cell hg 0
 have c1 := blk_cell hg 1
 have c2 := blk_cell hg 2
 have f0 := blk_frozen hg 0
 have f1 := blk_frozen hg 1
 have f2 := blk_frozen hg 2
 have HG := Aside0.mk hg
 have HB := Aside0.mk hb
 clear hg hb hL
 go_enter Tryd.func84, Tryd.ntmps84
 go_wp2
 generalize (w.alloc (.cells #[.int .i32 0, .int .i64 0, .bool false] 50)).iter s (0 + n) = W at *
 refine wp_loop_rounds 1 ?_
 rw [rounds_succ]
 go_wp2_with (go_at_call 101; refine (strings_HasPrefix.calls s (⟨#[239, 191, 189]⟩ : ByteArray) true _ HP.out).mono ?_; rintro e w' ⟨rfl, ⟨nd, rfl⟩⟩)
 refine bodyPost_ret (results_cell_row rfl _ _ w.heap.size 50 #[.int .i32 r, .int .i64 ((Utf8.encode (r : Int)).size : Int), .bool true] (0, 0) _ rfl (blk_put3 _ _ _ (blk_drewN HG.out _)) Tryd.underlying50 rfl (by kernel_rfl)) rfl ?_
 exact ⟨rfl, below_put3 (pw_below_drewN HB.out _) (Nat.le_refl _) _ _ _⟩

set_option maxRecDepth 100000 in
theorem step_first.fffdbad (s : ByteArray) (w : World) (hL : LaidBad w) (hs : 0 < s.size) (hr : (Utf8.decode s 0).1 = 65533) (hp : hasFD s = false) :
  Calls Tryd.prog 84 #[.string s] w fun e w' => e = .returned (.agg #[.int .i32 65533, .int .i64 1, .bool false]) ∧ Below w.heap.size w w' := by
 have hu := Tryd.underlying50
 have hu9 := Tryd.underlying9
 have hu21 := Tryd.underlying21
 have HP := Aside0.mk ((hasFD_of s).trans (congrArg some hp))
 have hnx := run_next_any (P := Tryd.prog) (w.alloc (.cells #[.int .i32 0, .int .i64 0, .bool false] 50)) s 0 0 hs
 simp only [World.size_alloc] at hnx
 generalize (Utf8.decode s 0).1 = r at *
 generalize (Utf8.decode s 0).2 = n at *
 have hr1 : (((r : Nat) : Int) == 65533) = true := by rw [hr]; rfl
 clear hs hr hp
 have hb : Below w.heap.size w ((w.alloc (.cells #[.int .i32 0, .int .i64 0, .bool false] 50)).iter s (0 + n)) := ((Below.refl _ _).alloc (Nat.le_refl _) _).alloc (by simp) _
 obtain ⟨h0, h1, h2⟩ := laid_cell (laid_below hL hb)
 have hg : ((w.alloc (.cells #[.int .i32 0, .int .i64 0, .bool false] 50)).iter s (0 + n)).heap[w.heap.size]? = some (.cells #[.int .i32 0, .int .i64 0, .bool false] 50 (0, 0)) := blk_alloc (blk_new w _) _
 have c0 := blk_cell hg 0
 have c1 := blk_cell hg 1
 have c2 := blk_cell hg 2
 have f0 := blk_frozen hg 0
 have f1 := blk_frozen hg 1
 have f2 := blk_frozen hg 2
 have HG := Aside0.mk hg
 have HB := Aside0.mk hb
 clear hg hb hL
 go_enter Tryd.func84, Tryd.ntmps84
 go_wp2
 generalize (w.alloc (.cells #[.int .i32 0, .int .i64 0, .bool false] 50)).iter s (0 + n) = W at *
 refine wp_loop_rounds 1 ?_
 rw [rounds_succ]
 go_wp2_with (go_at_call 101; refine (strings_HasPrefix.calls s (⟨#[239, 191, 189]⟩ : ByteArray) false _ HP.out).mono ?_; rintro e w' ⟨rfl, ⟨nd, rfl⟩⟩)
 refine bodyPost_ret (results_cell_row rfl _ _ w.heap.size 50 #[.int .i32 65533, .int .i64 1, .bool false] (0, 0) _ rfl (blk_put3 _ _ _ (blk_drewN HG.out _)) Tryd.underlying50 rfl (by kernel_rfl)) rfl ?_
 exact ⟨rfl, below_put3 (pw_below_drewN HB.out _) (Nat.le_refl _) _ _ _⟩

theorem step_first.calls (a0 : ByteArray) (r1 r2 : Int) (r3 : Bool) (w : World) (hL : LaidBad w) (h : step_first.f a0 = some (r1, r2, r3)) :
  Calls Tryd.prog 84 #[.string a0] w fun e w' => e = .returned (.agg #[.int .i32 r1, .int .i64 r2, .bool r3]) ∧ Below w.heap.size w w' := by
 have h := Option.some.inj h
 unfold firstOf at h
 by_cases h0 : a0.size = 0
 ·rw [if_pos h0] at h
  cases h
  exact step_first.bad a0 w hL h0
 ·rw [if_neg h0] at h
  by_cases h1 : (Utf8.decode a0 0).1 = 65533
  ·rw [if_pos h1] at h
   cases hp : hasFD a0 with
   | true =>
    rw [hp, if_pos rfl] at h
    cases h
    have := step_first.fffd a0 w hL (by omega) h1 hp
    rw [h1] at this
    exact this
   | false =>
    rw [hp, if_neg (by decide)] at h
    cases h
    exact step_first.fffdbad a0 w hL (by omega) h1 hp
  ·rw [if_neg h1] at h
   cases h
   exact step_first.whole a0 w hL (by omega) h1

end Go.Proofs.YtijbkiajhicooabDoor.PW

namespace Go.Proofs.YtijbkiajhicooabDoor.PW
open Go.RowKit Go.Proofs.YtijbkiajhicooabDoorW.PrintWords Go.Proofs.YtijbkiajhicooabDoorW.PrintLast Go.Proofs.YtijbkiajhicooabDoorW.PrintMore
attribute [local go_sem] max2_int min2_int max_two min_two max_three min_three max_four min_four   -- for this text's walks alone
set_option linter.unusedVariables false
set_option linter.unusedSimpArgs false

def words_outside.f (l0 : List Int) (a1 : Int) : Option (Bool) := if a1 < 0 then (some true) else (some (decide (a1 > (l0.length : Int))))
set_option maxHeartbeats 8000000 in
set_option maxRecDepth 100000 in
theorem words_outside.calls (A0 : Option Addr) (c0 : Nat) (l0 : List Int) (a1 : Int) (r : Bool) (w : World) (hr0 : Kd.C (Kd.int .u8) w A0 l0.length l0) (hc0 : l0.length ≤ c0) (h : words_outside.f l0 a1 = some r) :
  Calls Tryd.prog 51 #[.slice A0 l0.length c0, .int .i64 a1] w fun e w' => e = .returned (.bool r) ∧ Drawn0 w w' := by
 have HR0 := Aside0.mk hr0
 have HC0 := Aside0.mk hc0
 clear hr0 hc0
 have H : (if a1 < 0 then (some true) else (some (decide (a1 > (l0.length : Int))))) = some r := h
 clear h
 by_cases c3 : a1 < 0
 ·rw [if_pos c3] at H
  have c3b0 : decide (a1 < 0) = true := decide_eq_true c3
  clear c3
  obtain rfl := Option.some.inj H
  go_enter Tryd.func51, Tryd.ntmps51
  go_wp2
  go_ret
  exact ⟨by first | rfl | (simp; done) | (simp [*]; done), by repeat (first | exact Drawn0.refl _ | apply Drawn0.step)⟩
 ·rw [if_neg c3] at H
  have c3b0 : decide (a1 < 0) = false := decide_eq_false c3
  clear c3
  obtain rfl := Option.some.inj H
  go_enter Tryd.func51, Tryd.ntmps51
  go_wp2
  go_ret
  exact ⟨by first | rfl | (simp; done) | (simp [*]; done), by repeat (first | exact Drawn0.refl _ | apply Drawn0.step)⟩

end Go.Proofs.YtijbkiajhicooabDoor.PW

namespace Go.Proofs.YtijbkiajhicooabDoor.PW
open Go.RowKit Go.Proofs.YtijbkiajhicooabDoorW.PrintWords Go.Proofs.YtijbkiajhicooabDoorW.PrintLast Go.Proofs.YtijbkiajhicooabDoorW.PrintMore
attribute [local go_sem] max2_int min2_int max_two min_two max_three min_three max_four min_four   -- for this text's walks alone
set_option linter.unusedVariables false
set_option linter.unusedSimpArgs false

/-- A step with its place. -/
abbrev PStep := Int × Int × Int × Bool
def stepsAt (s : ByteArray) : Nat → Nat → List PStep
 | 0, _ => []
 | k + 1, p => if p < s.size then ((p : Int), firstOf (s.extract p s.size)) :: stepsAt s k (p + (Utf8.decode s p).2) else []
def stepsFrom (s : ByteArray) (p : Nat) : List PStep := stepsAt s (s.size - p) p
def allSteps (s : ByteArray) : List PStep := stepsFrom s 0
theorem decode_pos (s : ByteArray) (p : Nat) (h : p < s.size) : 1 ≤ (Utf8.decode s p).2 := by
 by_cases ha : (s[p]'h).toNat < 128
 ·rw [decode_ascii s p h ha]
  exact Nat.le_refl _
 ·exact (decode_high s p h (by omega)).2
theorem stepsAt_fuel (s : ByteArray) : ∀ (k j p : Nat), s.size - p ≤ k → s.size - p ≤ j → stepsAt s k p = stepsAt s j p := by
 intro k
 induction k with
 | zero =>
  intro j p h _
  cases j with
  | zero => rfl
  | succ j => simp only [stepsAt]; rw [if_neg (by omega)]
 | succ k ih =>
  intro j p h hj
  cases j with
  | zero => simp only [stepsAt]; rw [if_neg (by omega)]
  | succ j =>
   simp only [stepsAt]
   by_cases hp : p < s.size
   ·have hw := decode_pos s p hp
    rw [if_pos hp, if_pos hp, ih j _ (by omega) (by omega)]
   ·rw [if_neg hp, if_neg hp]
theorem stepsFrom_cons (s : ByteArray) (p : Nat) (h : p < s.size) : stepsFrom s p = ((p : Int), firstOf (s.extract p s.size)) :: stepsFrom s (p + (Utf8.decode s p).2) := by
 have hw := decode_pos s p h
 obtain ⟨m, hm⟩ : ∃ m, s.size - p = m + 1 := ⟨s.size - p - 1, by omega⟩
 unfold stepsFrom
 rw [hm]
 simp only [stepsAt]
 rw [if_pos h, stepsAt_fuel s m (s.size - (p + (Utf8.decode s p).2)) _ (by omega) (Nat.le_refl _)]
theorem stepsFrom_nil (s : ByteArray) (p : Nat) (h : ¬ p < s.size) : stepsFrom s p = [] := by
 unfold stepsFrom
 rw [show s.size - p = 0 by omega]
 rfl
theorem stepsFrom_length (s : ByteArray) (p : Nat) : (stepsFrom s p).length ≤ s.size - p := by
 generalize hn : s.size - p = n
 induction n using Nat.strongRecOn generalizing p with
 | _ n ih =>
  by_cases h : p < s.size
  ·have hw := decode_pos s p h
   rw [stepsFrom_cons s p h, List.length_cons]
   have := ih (s.size - (p + (Utf8.decode s p).2)) (by omega) _ rfl
   omega
  ·rw [stepsFrom_nil s p h]
   exact Nat.zero_le _
/-- What a round of a loop over step.All must leave: all below n₀, the box of the text, and whatever is walked over. -/
def KpBox (n₀ Bs : Nat) (W W' : World) : Prop := Below n₀ W W' ∧ W'.heap[Bs]? = W.heap[Bs]? ∧ KeepsWalks W W'
abbrev encStep (x : PStep) : Array Value := #[.int .i64 x.1, .agg #[.int .i32 x.2.1, .int .i64 x.2.2.1, .bool x.2.2.2]]
attribute [local go_sem] Oper.semAt_some
theorem keeps_laid {n₀ Bs : Nat} {W W' : World} (h : KpBox n₀ Bs W W') (h0 : 0 < n₀) (hL : LaidBad W) : LaidBad W' := laid_block hL (h.1.block 0 h0)
set_option maxRecDepth 100000 in
set_option maxHeartbeats 1000000 in
theorem step_All1.within (n l Bs n₀ : Nat) (h1 : 1 ≤ n) (s : ByteArray) (hs : s.size ≤ 9223372036854775807) (J Jx : List PStep → World → Prop) (hn0 : 0 < n₀)
  (hY : ∀ pre x W, J pre W → pre.length < (allSteps s).length → YieldAt Fence.wide (n - 1) Tryd.prog l (encStep x) W fun e W' =>
   (e = .returned (.bool true) ∧ J (pre ++ [x]) W' ∧ KpBox n₀ Bs W W') ∨ (e = .returned (.bool false) ∧ Jx (pre ++ [x]) W'))
  (W : World) (hJ : AbidesFrom W.heap.size J) (hBs : W.heap[Bs]? = some (.cells #[.string s] 9 (0, 0))) (hn : n₀ ≤ W.heap.size) (hL : LaidBad W) (h0 : J [] W) :
  CallsIn Fence.wide n Tryd.prog 88 #[.func (.yield l) #[] #[], .pointer (some ⟨Bs, 0, none⟩)] W fun e W' => (∃ v, e = .returned v) ∧
   ((∃ ys, ys = allSteps s ∧ J ys W') ∨ (∃ pre, pre <+: allSteps s ∧ Jx pre W')) := by
 refine callsIn_of_wp Tryd.func88 rfl trivial ?_ rfl
 have hu9 := Tryd.underlying9
 have hcell := blk_cell hBs 0
 simp only [Tryd.ntmps88, List.size_toArray, List.length_cons, List.length_nil, Nat.reduceAdd, Nat.reduceSub, Array.replicate_succ, Array.replicate_zero, List.push_toArray, List.append_toArray, List.nil_append, List.cons_append]
 gi_wp2
 have hit : (W.iter s 0).heap[W.heap.size]? = some (.stringIter s 0) := World.iter_heap W s 0
 have hB0 : Below W.heap.size W (W.iter s 0) := (Below.refl _ W).alloc (Nat.le_refl _) _
 have hJ0 : J [] (W.iter s 0) := hJ _ _ _ none h0 (World.grownBy_alloc W _ none) (fun r e => by cases e)
 gi_loopw [3] (fun p wr => ∃ (pos : Nat) (pre : List PStep), wr.heap[W.heap.size]? = some (.stringIter s pos) ∧ allSteps s = pre ++ stepsFrom s pos ∧ J pre wr ∧ LaidBad wr ∧ wr.heap[Bs]? = some (.cells #[.string s] 9 (0, 0)) ∧ W.heap.size ≤ wr.heap.size ∧ n₀ ≤ wr.heap.size)
  (fun _ wr => s.size - wr.iterPos W.heap.size)
 case atStart => exact ⟨0, [], hit, rfl, hJ0, laid_below hL hB0, blk_below hBs hB0, hB0.size, Nat.le_trans hn hB0.size⟩
 case round =>
  obtain ⟨pos, pre, hi, hx, hJs, hLr, hBr, hsz, hnr⟩ := hrel
  have hcr := blk_cell hBr 0
  have ne1 : Bs ≠ W.heap.size := by have := blk_lt hBs; omega
  by_cases hp : pos < s.size
  ·have hnx := Lib.run_next_any_at (P := Tryd.prog) wr W.heap.size s pos 0 hi hp
   have hw := decode_pos s pos hp
   have HI := Aside0.mk (show wr.iterPos W.heap.size = pos by simp [World.iterPos, hi])
   have hi1 := Lib.iterAt_heap wr W.heap.size s pos (pos + (Utf8.decode s pos).2) hi
   have hB1 : (wr.iterAt W.heap.size s (pos + (Utf8.decode s pos).2)).heap[Bs]? = some (.cells #[.string s] 9 (0, 0)) := (Lib.iterAt_other wr W.heap.size Bs s _ ne1).trans hBr
   have hL1 : LaidBad (wr.iterAt W.heap.size s (pos + (Utf8.decode s pos).2)) := laid_block hLr (Lib.iterAt_other wr W.heap.size 0 s _ (by omega))
   have hs1 : (wr.iterAt W.heap.size s (pos + (Utf8.decode s pos).2)).heap.size = wr.heap.size := Lib.iterAt_size _ _ _ _
   have hJ1 : J pre (wr.iterAt W.heap.size s (pos + (Utf8.decode s pos).2)) := hJ _ _ _ (some W.heap.size) hJs
    ⟨rfl, rfl, rfl, by rw [hs1]; exact Nat.le_refl _, fun k _ hk => Lib.iterAt_other wr W.heap.size k s _ (fun e => hk (by rw [e]))⟩ (fun r e => by cases e; exact ⟨Nat.le_refl _, _, hi, rfl⟩)
   have hcons := stepsFrom_cons s pos hp
   have hlen : pre.length < (allSteps s).length := by rw [hx, hcons]; simp
   have hcx := blk_cell hB1 0
   have HP := Aside0.mk hp
   have hr1 : (pos : Int) ≤ (s.size : Int) := by omega
   have hr2 : (s.size : Int) ≤ 9223372036854775807 := by omega
   have hp' : pos ≤ s.size := by omega
   clear hcr hBr hLr hJs hit hi hBs hcell hL hp
   generalize wr.iterAt W.heap.size s (pos + (Utf8.decode s pos).2) = w1 at *
   obtain ⟨⟨r1, r2, r3⟩, hf⟩ : ∃ x, firstOf (s.extract pos s.size) = x := ⟨_, rfl⟩
   rw [hf] at hcons
   have HF := Aside0.mk hf
   have HC := Aside0.mk hcons
   have HX := Aside0.mk hx
   clear hf hcons hx
   gi_wp2_with (refine ⟨trivial, ?_⟩; gi_at_call 84; refine (callsIn_wide.2 (step_first.calls (s.extract pos s.size) r1 r2 r3 _ hL1 (congrArg some HF.out))).mono ?_; rintro e w2 ⟨rfl, hb2⟩; obtain ⟨fn, tmps, assign, body, hy, hR⟩ := hY pre ((pos : Int), r1, r2, r3) w2 (hJ _ _ _ none hJ1 (grown_of_below hb2 none) (fun r e => by cases e)) hlen)
   refine hR.mono ?_
   rintro e W3 (⟨rfl, hJ3, hk3⟩ | ⟨rfl, hJx3⟩)
   ·have hL3 : LaidBad W3 := keeps_laid hk3 hn0 (laid_below hL1 hb2)
    have hB3 : W3.heap[Bs]? = some (.cells #[.string s] 9 (0, 0)) := hk3.2.1.trans (blk_below hB1 hb2)
    have hi3 : W3.heap[W.heap.size]? = some (.stringIter s (pos + (Utf8.decode s pos).2)) := hk3.2.2.same _ _ (blk_below hi1 hb2) rfl
    gi_wp2
    go_roundw
    case rel => exact ⟨pos + (Utf8.decode s pos).2, pre ++ [((pos : Int), r1, r2, r3)], hi3, by rw [HX.out, HC.out]; simp, hJ3, hL3, hB3, by have := hb2.size; have := hk3.1.size; omega, by have := hb2.size; have := hk3.1.size; omega⟩
    case measure =>
     have e1 : W3.iterPos W.heap.size = pos + (Utf8.decode s pos).2 := by simp [World.iterPos, hi3]
     have e2 := HI.out
     have := HP.out
     omega
   ·gi_wp2
    refine bodyPost_ret (results_none rfl _ _ _) rfl ?_
    exact ⟨⟨_, rfl⟩, .inr ⟨pre ++ [((pos : Int), r1, r2, r3)], ⟨stepsFrom s (pos + (Utf8.decode s pos).2), by rw [HX.out, HC.out]; simp⟩, hJx3⟩⟩
  ·have hnx := Lib.run_next_end_at (P := Tryd.prog) wr W.heap.size s pos 0 hi hp
   clear hit
   gi_wp2
   go_end0
   exact ⟨⟨_, rfl⟩, .inl ⟨_, rfl, by rw [hx, stepsFrom_nil s pos hp, List.append_nil]; exact hJs⟩⟩

theorem KpBox.t {n₀ Bs : Nat} {A B C : World} (h : KpBox n₀ Bs A B) (k : KpBox n₀ Bs B C) : KpBox n₀ Bs A C := ⟨h.1.trans k.1, k.2.1.trans h.2.1, h.2.2.trans k.2.2⟩
theorem KpBox.b {n₀ Bs : Nat} {w : World} (hn : n₀ ≤ w.heap.size) (hB : Bs < w.heap.size) (W : World) (l : Nat) (o o' : Obj) (hl : w.heap.size ≤ l) (h : W.heap[l]? = some o) (hc : o.isCells = false) (hw : o.isWalk = false) : KpBox n₀ Bs W (W.putObj l o') :=
 ⟨belowK_b hn W l o o' hl h hc hw, World.putObj_heap_other (by omega), KeepsWalks.putObj _ h hw⟩
theorem KpBox.refl (n₀ Bs : Nat) (W : World) : KpBox n₀ Bs W W := ⟨Below.refl _ _, rfl, KeepsWalks.refl _⟩
theorem KpBox.of {n₀ Bs : Nat} {W W' : World} (h : Below n₀ W W') (hb : W'.heap[Bs]? = W.heap[Bs]?) (hk : KeepsOthers W W') : KpBox n₀ Bs W W' := ⟨h, hb, hk.walks⟩

/-- What step.All hands back: the closure over the box Bs of the text. -/
theorem step_All1.stops (n Bs n₀ : Nat) (h1 : 1 ≤ n) (s : ByteArray) (hs : s.size ≤ 9223372036854775807) (hn0 : 0 < n₀) (w : World)
  (hBs : w.heap[Bs]? = some (.cells #[.string s] 9 (0, 0))) (hn : n₀ ≤ w.heap.size) (hL : LaidBad w) :
  SeqStopsK Fence.wide n Tryd.prog 88 #[.pointer (some ⟨Bs, 0, none⟩)] encStep (KpBox n₀ Bs) (fun ys => ys = allSteps s) (fun pre => pre <+: allSteps s) (allSteps s).length w :=
 fun l J Jx W hW hJ _ hY h0 => step_All1.within n l Bs n₀ h1 s hs J Jx hn0 hY W hJ (blk_below hBs hW) (Nat.le_trans hn hW.size) (laid_below hL hW) h0

set_option maxRecDepth 100000 in
theorem step_All.calls (A0 : Option Addr) (c0 : Nat) (l0 : List Int) (w : World) (hr0 : Kd.C (Kd.int .u8) w A0 l0.length l0) (hc0 : l0.length ≤ c0) :
  Calls Tryd.prog 57 #[.slice A0 l0.length c0] w fun e w' => e = .returned (.func (.func 88) #[] #[.pointer (some ⟨w.heap.size, 0, none⟩)]) ∧ w' = w.alloc (.cells #[.string (strOfNums l0)] 9) := by
 have hcv := Kd.C_string (src := 22) (dst := 9) (c := c0) Tryd.underlying22 Tryd.underlying5 Tryd.underlying9 hr0
 have hu9 := Tryd.underlying9
 clear hr0
 go_enter Tryd.func57, Tryd.ntmps57
 go_wp2
 go_ret
 exact ⟨rfl, rfl⟩

theorem R_abides {α : Type} {d : Kd α} {e : Nat} {w w1 : World} {base : Nat} {ok : Nat → Prop} {v : Value} {xs : List α} (h : d.R e w base ok v xs) {row : Option Nat} (hg : w.grownBy w1 row)
  (hr : ∀ r, row = some r → ∃ o : Obj, w.heap[r]? = some o ∧ o.isCells = false) : d.R e w1 base ok v xs :=
 Kd.R_mono (Kd.R_grown (Kd.R_bound h) hg (fun k hk he => by
  obtain ⟨_, _, _, q, _, cells, hc⟩ := hk
  obtain ⟨o, ho, hn⟩ := hr k he.symm
  rw [hc] at ho
  cases ho
  cases hn)) (fun _ hk => hk.1)
theorem blk_abides {w w1 : World} {g : Nat} {cs : Array Value} {t : TypeId} (h : w.heap[g]? = some (.cells cs t (0, 0))) {row : Option Nat} (hg : w.grownBy w1 row)
  (hr : ∀ r, row = some r → ∃ o : Obj, w.heap[r]? = some o ∧ o.isCells = false) : w1.heap[g]? = some (.cells cs t (0, 0)) :=
 blk_grown h hg (fun he => by
  obtain ⟨o, ho, hn⟩ := hr g he.symm
  rw [h] at ho
  cases ho
  cases hn)
theorem R_cells {α : Type} {d : Kd α} {e : Nat} {w : World} {base : Nat} {ok : Nat → Prop} {v : Value} {xs : List α} (h : d.R e w base ok v xs) (k : Nat) (hk : v.ownBlock = some k) : ∃ cells, w.heap[k]? = some (.cells cells e (0, 0)) := by
 obtain ⟨inner, ho⟩ := Kd.R_own h
 exact own_typed ho k hk
theorem keepsOthers_R {α : Type} {d : Kd α} {e : Nat} {w w1 : World} {base : Nat} {ok : Nat → Prop} {v : Value} {xs : List α} (h : d.R e w base ok v xs) (hg : w.grownBy w1 v.ownBlock) : KeepsOthers w w1 :=
 KeepsOthers.of_grownBy hg (fun j o hj ho => by
  obtain ⟨cells, hc⟩ := R_cells h j hj
  rw [hc] at ho
  cases ho
  rfl)
theorem R_ne_blk {α : Type} {d : Kd α} {e : Nat} {w : World} {base : Nat} {ok : Nat → Prop} {v : Value} {xs : List α} (h : d.R e w base ok v xs) {g : Nat} {cs : Array Value} {t : TypeId} (hg : w.heap[g]? = some (.cells cs t (0, 0))) (hne : e ≠ t) : some g ≠ v.ownBlock := by
 intro he
 obtain ⟨cells, hc⟩ := R_cells h g he.symm
 rw [hg] at hc
 injection hc with hc
 injection hc with _ ht
 exact hne ht.symm
theorem R_appendIn {F : Fence} {nF : Nat} {P : Program} {ops : Array Oper} {rest : List Oper} {o : Oper} {a : Act} {Q : Exit → Act → World → Prop} {α : Type} (d : Kd α) {w0 W : World} (base : Nat) (hgd : o.guard = none) (s x : Operand) (t e : TypeId) (z : Value) (bytes : Nat)
  (ho : o.op = .call { callee := .builtin .append, args := #[s, x], argTypes := #[t, t] })
  (ht : P.underlying t = some (.slice e)) (hinfo : (P.info? e).map (fun i => (i.zero, i.size, i.bytes)) = some (some z, d.sz, bytes)) (hz : z.cells.size = d.sz) (hs0 : 0 < d.sz) (hb0 : 0 < bytes)
  (v : Value) (xs : List α) (p : α) (cs : List Value) (ok okp : Nat → Prop) (hs : a.eval s = v) (hx : a.eval x = .slice (some ⟨W.heap.size, 0, none⟩) 1 1) (hp : d.M W base okp p cs) (hokp : ∀ k, okp k → ok k ∧ some k ≠ v.ownBlock) (hfresh : ∀ k, W.heap.size ≤ k → ok k)
  (HO : d.R e W base ok v xs) (HB : Below base w0 W) (hbase : base ≤ W.heap.size) (hl : (xs.length + 1) * bytes ≤ 140737488355328)
  (h : ∀ v1 w1, d.R e w1 base ok v1 (xs ++ [p]) → Below base w0 w1 → W.grownBy w1 v.ownBlock → v1.ownBlock ≠ none → wpListIn F nF P ops Q rest (a.put o.dst v1) w1) :
  wpListIn F nF P ops Q (o :: rest) a (W.alloc (.cells cs.toArray e)) := by
 obtain ⟨h0, inner, hown, hr⟩ := HO
 obtain ⟨i0, hi, hzz⟩ := Option.map_eq_some_iff.1 hinfo
 simp only [Prod.mk.injEq] at hzz
 obtain ⟨hz0, hz1, hz2⟩ := hzz
 have hlen : xs.length + 1 ≤ 140737488355328 := Nat.le_trans (Nat.le_mul_of_pos_right _ hb0) hl
 have hys : cs.length = d.sz := d.K_len (d.K_of_M hp)
 refine wpListIn_append_own_at (W.alloc (.cells cs.toArray e)) hgd s x t ho base e i0 z d.sz bytes ht hi hz0 hz1 hz2 hz hs0 v xs.length inner hs (hown.alloc _) ⟨W.heap.size, 0, none⟩ 1 1 cs hx (by rw [hys]; simp)
  (by simpa using World.news_of_block (cs := cs.toArray) (t := e) (fr := (0, 0)) (heap_alloc_new W (.cells cs.toArray e))) (d.K_one (d.K_of_M hp)) (by simp only [maxLen]; omega) hl (by simp; omega) ?_
 intro v1 w1 hown1 hg hnil hat
 have hg1 : W.grownBy w1 v.ownBlock := World.grownBy.trans (World.grownBy_alloc W _ _) hg
 have hat1 : v1.ownBlock = v.ownBlock ∨ ∃ b, v1.ownBlock = some b ∧ W.heap.size ≤ b := by
  rcases hat with hat | hat
  ·exact .inl hat
  ·exact .inr ⟨_, hat, by simp⟩
 refine h v1 w1 (Kd.R_appended h0 hr hp hokp hfresh hown1 hg1 hat1) (HB.grown hg1 hbase (own_base hown)) hg1 ?_
 rcases hown1.2 with ⟨_, h0⟩ | ⟨g, cap, cur, hv, _⟩
 ·have := hown1.1
  rw [h0] at this
  simp at this
  omega
 ·rw [hv]
  simp [Value.ownBlock]
theorem blk_put7 {W : World} {g : Nat} {t : TypeId} {a0 a1 a2 a3 a4 a5 a6 : Value} (x0 x1 x2 x3 x4 x5 x6 : Value) (h : W.heap[g]? = some (.cells #[a0, a1, a2, a3, a4, a5, a6] t (0, 0))) :
  (((((((W.setCell ⟨g, 0, none⟩ x0).setCell ⟨g, 1, none⟩ x1).setCell ⟨g, 2, none⟩ x2).setCell ⟨g, 3, none⟩ x3).setCell ⟨g, 4, none⟩ x4).setCell ⟨g, 5, none⟩ x5).setCell ⟨g, 6, none⟩ x6).heap[g]? = some (.cells #[x0, x1, x2, x3, x4, x5, x6] t (0, 0)) :=
 blk_put (blk_put (blk_put (blk_put (blk_put (blk_put (blk_put h 0 x0 (cs' := #[x0, a1, a2, a3, a4, a5, a6]) rfl) 1 x1 (cs' := #[x0, x1, a2, a3, a4, a5, a6]) rfl) 2 x2 (cs' := #[x0, x1, x2, a3, a4, a5, a6]) rfl) 3 x3 (cs' := #[x0, x1, x2, x3, a4, a5, a6]) rfl) 4 x4 (cs' := #[x0, x1, x2, x3, x4, a5, a6]) rfl) 5 x5 (cs' := #[x0, x1, x2, x3, x4, x5, a6]) rfl) 6 x6 rfl
theorem below_put7 {w W : World} {g : Nat} (h : Below w.heap.size w W) (hg : w.heap.size ≤ g) (x0 x1 x2 x3 x4 x5 x6 : Value) :
  Below w.heap.size w (((((((W.setCell ⟨g, 0, none⟩ x0).setCell ⟨g, 1, none⟩ x1).setCell ⟨g, 2, none⟩ x2).setCell ⟨g, 3, none⟩ x3).setCell ⟨g, 4, none⟩ x4).setCell ⟨g, 5, none⟩ x5).setCell ⟨g, 6, none⟩ x6) :=
 below_set (below_set (below_set (below_set (below_set (below_set (below_set h hg) hg) hg) hg) hg) hg) hg

end Go.Proofs.YtijbkiajhicooabDoor.PW

namespace Go.Proofs.YtijbkiajhicooabDoor.PW
open Go.RowKit Go.Proofs.YtijbkiajhicooabDoorW.PrintWords Go.Proofs.YtijbkiajhicooabDoorW.PrintLast Go.Proofs.YtijbkiajhicooabDoorW.PrintMore
attribute [local go_sem] max2_int min2_int max_two min_two max_three min_three max_four min_four   -- for this text's walks alone
set_option linter.unusedVariables false
set_option linter.unusedSimpArgs false

def step_at.f (l0 : List Int) (a1 : Int) : Option (Int × Int × Bool) := if 0 ≤ a1 then (if a1 ≤ (mn (wrap64 (a1 + 4)) (l0.length : Int)) then (if (mn (wrap64 (a1 + 4)) (l0.length : Int)) ≤ (l0.length : Int) then ((step_first.f (strOfNums ((l0.take ((mn (wrap64 (a1 + 4)) (l0.length : Int)) : Int).toNat).drop (a1 : Int).toNat))).bind fun bt144 => (some (bt144.1, bt144.2.1, bt144.2.2))) else (none)) else (none)) else (none)
set_option maxHeartbeats 8000000 in
set_option maxRecDepth 100000 in
theorem step_at.calls (A0 : Option Addr) (c0 : Nat) (l0 : List Int) (a1 : Int) (r1 : Int) (r2 : Int) (r3 : Bool) (w : World) (hr0 : Kd.C (Kd.int .u8) w A0 l0.length l0) (hc0 : l0.length ≤ c0) (hL : LaidBad w) (h : step_at.f l0 a1 = some (r1, r2, r3)) :
  Calls Tryd.prog 54 #[.slice A0 l0.length c0, .int .i64 a1] w fun e w' => e = .returned (.agg #[.int .i32 r1, .int .i64 r2, .bool r3]) ∧ Below w.heap.size w w' := by
 have HR := Aside0.mk hr0
 unfold step_at.f at h
 by_cases g0 : 0 ≤ a1
 ·rw [if_pos g0] at h
  obtain ⟨m, hm⟩ : ∃ m : Int, mn (wrap64 (a1 + 4)) (l0.length : Int) = m := ⟨_, rfl⟩
  rw [hm] at h
  by_cases g1 : a1 ≤ m
  ·rw [if_pos g1] at h
   by_cases g2 : m ≤ (l0.length : Int)
   ·rw [if_pos g2] at h
    have hf : step_first.f (strOfNums ((l0.take m.toNat).drop a1.toNat)) = some (r1, r2, r3) := h
    obtain ⟨i0, hi0, _, hsz0, _⟩ := info_parts info5
    obtain ⟨A9, hcut, hA9, hC9⟩ := print_mid_of (P := Tryd.prog) (Value.int .u8) 0 22 5 .i64 .i64 Tryd.underlying22 hi0 hsz0 A0 c0 l0 a1 m g0 g1 g2 hc0
    have hr9 : Kd.C (Kd.int .u8) w A9 ((l0.take m.toNat).drop a1.toNat).length ((l0.take m.toNat).drop a1.toNat) := Kd.C_of_reads (h1 := fun _ => rfl) (hA9 _ (Kd.reads_of_C HR.out))
    have hcv := Kd.C_string (P := Tryd.prog) (A := A9) (c := (c0 - a1.toNat)) Tryd.underlying22 Tryd.underlying5 Tryd.underlying9 (Kd.C_alloc hr9 (.cells #[.int .i32 0, .int .i64 0, .bool false] 50))
    have hm_ : (if (l0.length : Int) < (wrap64 (a1 + 4)) then (l0.length : Int) else (wrap64 (a1 + 4))) = m := hm
    have hu := Tryd.underlying50
    have hb : Below w.heap.size w (w.alloc (.cells #[.int .i32 0, .int .i64 0, .bool false] 50)) := below_alloc (Below.refl _ _) _
    have hL1 := laid_below hL hb
    have HG := Aside0.mk (blk_new w (.cells #[.int .i32 0, .int .i64 0, .bool false] 50))
    have HB := Aside0.mk hb
    have HF := Aside0.mk hf
    clear hA9 hC9 hr9 h hf hL hb hi0 hsz0 hr0 hm
    generalize strOfNums ((l0.take m.toNat).drop a1.toNat) = s at *
    generalize ((l0.take m.toNat).drop a1.toNat).length = n9 at *
    replace g0 := eq_true g0
    replace g1 := eq_true g1
    replace g2 := eq_true g2
    go_enter Tryd.func54, Tryd.ntmps54
    go_wp2_with fail
    refine (step_first.calls s r1 r2 r3 _ hL1 HF.out).mono ?_
    rintro e w2 ⟨rfl, hb2⟩
    have hg2 := blk_below HG.out hb2
    have c0 := blk_cell hg2 0
    have c1 := blk_cell hg2 1
    have c2 := blk_cell hg2 2
    have f0 := blk_frozen hg2 0
    have f1 := blk_frozen hg2 1
    have f2 := blk_frozen hg2 2
    have HG2 := Aside0.mk hg2
    have HB2 := Aside0.mk (below_step HB.out hb2)
    clear hg2 hb2
    go_wp2
    refine bodyPost_ret (results_cell_row rfl _ _ w.heap.size 50 #[.int .i32 r1, .int .i64 r2, .bool r3] (0, 0) _ rfl (blk_put3 _ _ _ HG2.out) Tryd.underlying50 rfl (by kernel_rfl)) rfl ?_
    exact ⟨rfl, below_put3 HB2.out (Nat.le_refl _) _ _ _⟩
   ·rw [if_neg g2] at h
    cases h
  ·rw [if_neg g1] at h
   cases h
 ·rw [if_neg g0] at h
  cases h

end Go.Proofs.YtijbkiajhicooabDoor.PW

namespace Go.Proofs.YtijbkiajhicooabDoor.PW
open Go.RowKit Go.Proofs.YtijbkiajhicooabDoorW.PrintWords Go.Proofs.YtijbkiajhicooabDoorW.PrintLast Go.Proofs.YtijbkiajhicooabDoorW.PrintMore
attribute [local go_sem] max2_int min2_int max_two min_two max_three min_three max_four min_four   -- for this text's walks alone
set_option linter.unusedVariables false
set_option linter.unusedSimpArgs false

mutual
def step_inside.l0 : Nat → List Int → Int → Int → Option (Int)
 | 0, _, _, _ => none
 | k + 1, x0, x1, x5 => if x5 ≤ 3 then (step_inside.j1 k x0 x1 x5 (decide (x5 ≤ x1))) else (step_inside.j1 k x0 x1 x5 false)
def step_inside.j1 : Nat → List Int → Int → Int → Bool → Option (Int)
 | 0, _, _, _, _ => none
 | k + 1, x0, x1, x5, x12 => if x12 = true then ((step_at.f x0 (wrap64 (x1 - x5))).bind fun bt147 => (if bt147.2.1 > x5 then (some x5) else (step_inside.l0 k x0 x1 (wrap64 (x5 + 1))))) else (some 0)
end
def step_inside.f (k : Nat) (l0 : List Int) (a1 : Int) : Option (Int) := step_inside.l0 k l0 a1 1
set_option maxHeartbeats 8000000 in
set_option maxRecDepth 100000 in
theorem step_inside.calls (k : Nat) (A0 : Option Addr) (c0 : Nat) (l0 : List Int) (a1 : Int) (r : Int) (w : World) (hr0 : Kd.C (Kd.int .u8) w A0 l0.length l0) (hc0 : l0.length ≤ c0) (hL : LaidBad w) (h : step_inside.f k l0 a1 = some r) :
  Calls Tryd.prog 53 #[.slice A0 l0.length c0, .int .i64 a1] w fun e w' => e = .returned (.int .i64 r) ∧ Below w.heap.size w w' := by
 have hfd50_1 : ∀ (x0_ : Int) (x1_ : Int) (x2_ : Bool) (w : World), (Instr.field 50 (.agg #[.int .i32 x0_, .int .i64 x1_, .bool x2_]) 1).run Tryd.prog w = .ok (.int .i64 x1_) w := by intros; kernel_rfl
 have HR0 := Aside0.mk hr0
 have HC0 := Aside0.mk hc0
 clear hr0 hc0
 have HB := Aside0.mk (Below.refl w.heap.size w)
 have HLB := Aside0.mk hL
 clear hL
 have H : (step_inside.l0 k l0 a1 1) = some r := h
 clear h
 have H' := Aside0.mk H
 clear H
 go_enter Tryd.func53, Tryd.ntmps53
 go_wp2
 go_loopg [5] k (fun kq v5 w' => ∃ (x5_1 : Int), v5 = .int .i64 x5_1 ∧ Aside0 (step_inside.l0 kq l0 a1 x5_1 = some r) ∧ Aside0 (kq ≤ k) ∧ Aside0 (Below w.heap.size w w'))
 case atStart => exact ⟨(1), (by first | rfl | (simp; done) | (simp [*]; done)), H', ⟨Nat.le_refl _⟩, ⟨by repeat (first | (with_reducible first | exact HB.out | apply below_alloc | apply pw_below_drewN | apply below_drew1) | exact HB.out)⟩⟩
 case round =>
  clear H'
  try clear p2
  obtain ⟨x5_1, rfl, HA, HK1, HB⟩ := hrel
  cases gk with
  | zero => exact absurd HA.out (by simp [step_inside.l0])
  | succ k1 =>
   have H := HA.out
   clear HA
   simp only [step_inside.l0] at H
   have HC3 := Aside0.mk H
   clear H
   go_upto_region 2 with (fail)
   go_cut [12] (fun v12 wc => ∃ (kq : Nat) (x12_2 : Bool), v12 = .bool x12_2 ∧ Aside0 (step_inside.j1 kq l0 a1 x5_1 x12_2 = some r) ∧ Aside0 (kq ≤ k1) ∧ Aside0 (Below w.heap.size w wc))
   case first =>
    have H := HC3.out
    clear HC3
    by_cases c4 : x5_1 ≤ 3
    ·rw [if_pos c4] at H
     have c4b0 : decide (x5_1 ≤ 3) = true := decide_eq_true c4
     clear c4
     (first | rw [c4b0] | (simp only [i64_w, i32_w]; rw [c4b0]) | skip)
     have H' := Aside0.mk H
     clear H
     go_wp2
     go_meet
     case rel => exact ⟨_, (decide (x5_1 ≤ a1)), (by first | rfl | (simp; done) | (simp [*]; done)), H', ⟨by have := HK1.out; first | omega | exact Nat.le_refl _⟩, ⟨by repeat (first | (with_reducible first | exact HB.out | apply below_alloc | apply pw_below_drewN | apply below_drew1) | exact HB.out)⟩⟩
    ·rw [if_neg c4] at H
     have c4b0 : decide (x5_1 ≤ 3) = false := decide_eq_false c4
     clear c4
     (first | rw [c4b0] | (simp only [i64_w, i32_w]; rw [c4b0]) | skip)
     have H' := Aside0.mk H
     clear H
     go_wp2
     go_meet
     case rel => exact ⟨_, (false), (by first | rfl | (simp; done) | (simp [*]; done)), H', ⟨by have := HK1.out; first | omega | exact Nat.le_refl _⟩, ⟨by repeat (first | (with_reducible first | exact HB.out | apply below_alloc | apply pw_below_drewN | apply below_drew1) | exact HB.out)⟩⟩
   case rest =>
    clear HC3
    try clear p2
    try clear c4
    try clear c4b0
    try clear p2
    obtain ⟨kq, x12_2, rfl, HA, HJ2, HB⟩ := hcut
    cases kq with
    | zero => exact absurd HA.out (by simp [step_inside.j1])
    | succ kj2 =>
     have H := HA.out
     clear HA
     simp only [step_inside.j1] at H
     by_cases c5 : x12_2 = true
     ·subst c5
      have H1 : ((step_at.f l0 (wrap64 (a1 - x5_1))).bind fun bt147 => (if bt147.2.1 > x5_1 then (some x5_1) else (step_inside.l0 kj2 l0 a1 (wrap64 (x5_1 + 1))))) = some r := by rw [if_pos rfl] at H; exact H
      clear H
      have H := H1
      clear H1
      replace H := Option.bind_eq_some_iff.mp H
      obtain ⟨⟨t147, t148, t149⟩, A60, H⟩ := H
      replace H : (if t148 > x5_1 then (some x5_1) else (step_inside.l0 kj2 l0 a1 (wrap64 (x5_1 + 1)))) = some r := H
      have A6 := Aside0.mk A60
      clear A60
      by_cases c7 : t148 > x5_1
      ·rw [if_pos c7] at H
       have c7b0 : decide (x5_1 < t148) = true := decide_eq_true c7
       clear c7
       obtain rfl := Option.some.inj H
       go_wp2_with (first | ((with_reducible refine gate_callee (f := 54) rfl ?_); refine goesL_ (some 19) rfl rfl Tryd.func54 (by kernel_rfl) rfl #[.slice A0 l0.length c0, .int .i64 (wrap64 (a1 - x5_1))] rfl (by (try simp only [List.map_toArray, List.map_cons, List.map_nil]); first | done | rfl | (simp only [List.length_drop, List.length_take]; rfl)) ?_; (with_reducible refine (step_at.calls _ _ l0 (wrap64 (a1 - x5_1)) t147 t148 t149 _ ?side1 ?side2 ?side3 A6.out).mono ?_); (case side1 => repeat (first | exact (Kd.C_below HR0.out HB.out) | (with_reducible refine Kd.C_alloc ?_ _) | (with_reducible refine Kd.C_drewN ?_ _) | (with_reducible refine Kd.C_drew ?_))); (case side2 => exact HC0.out); (case side3 => exact laid_below HLB.out (by repeat (first | (with_reducible first | exact HB.out | apply below_alloc | apply pw_below_drewN | apply below_drew1) | exact HB.out))); rintro e w8 ⟨rfl, hb⟩; refine ⟨_, rfl, ?_⟩; have n0_ := Aside0.mk (below_step (by repeat (first | (with_reducible first | exact HB.out | apply below_alloc | apply pw_below_drewN | apply below_drew1) | exact HB.out)) hb); clear HB; have HB := n0_; clear n0_; (try clear hb); (try clear hb2); (try clear hk); (try clear hi)))
       go_ret
       exact ⟨by first | rfl | (simp [errW_none, errW_some] <;> rfl) | (simp [*, errW_none, errW_some] <;> rfl), by repeat (first | (with_reducible first | exact HB.out | apply below_alloc | apply pw_below_drewN | apply below_drew1) | exact HB.out)⟩
      ·rw [if_neg c7] at H
       have c7b0 : decide (x5_1 < t148) = false := decide_eq_false c7
       clear c7
       have H' := Aside0.mk H
       clear H
       go_wp2_with (first | ((with_reducible refine gate_callee (f := 54) rfl ?_); refine goesL_ (some 19) rfl rfl Tryd.func54 (by kernel_rfl) rfl #[.slice A0 l0.length c0, .int .i64 (wrap64 (a1 - x5_1))] rfl (by (try simp only [List.map_toArray, List.map_cons, List.map_nil]); first | done | rfl | (simp only [List.length_drop, List.length_take]; rfl)) ?_; (with_reducible refine (step_at.calls _ _ l0 (wrap64 (a1 - x5_1)) t147 t148 t149 _ ?side1 ?side2 ?side3 A6.out).mono ?_); (case side1 => repeat (first | exact (Kd.C_below HR0.out HB.out) | (with_reducible refine Kd.C_alloc ?_ _) | (with_reducible refine Kd.C_drewN ?_ _) | (with_reducible refine Kd.C_drew ?_))); (case side2 => exact HC0.out); (case side3 => exact laid_below HLB.out (by repeat (first | (with_reducible first | exact HB.out | apply below_alloc | apply pw_below_drewN | apply below_drew1) | exact HB.out))); rintro e w9 ⟨rfl, hb⟩; refine ⟨_, rfl, ?_⟩; have n0_ := Aside0.mk (below_step (by repeat (first | (with_reducible first | exact HB.out | apply below_alloc | apply pw_below_drewN | apply below_drew1) | exact HB.out)) hb); clear HB; have HB := n0_; clear n0_; (try clear hb); (try clear hb2); (try clear hk); (try clear hi)))
       go_roundg kj2
       case measure => have := HK1.out; have := HJ2.out; omega
       case rel => exact ⟨(wrap64 (x5_1 + 1)), (by first | rfl | (simp; done) | (simp [*]; done)), H', ⟨by have := HK1.out; have := HJ2.out; omega⟩, ⟨by repeat (first | (with_reducible first | exact HB.out | apply below_alloc | apply pw_below_drewN | apply below_drew1) | exact HB.out)⟩⟩
     ·replace c5 := Bool.eq_false_iff.mpr c5
      subst c5
      have H1 : (some 0) = some r := by rw [if_neg (show ¬ (false = true) by decide)] at H; exact H
      clear H
      have H := H1
      clear H1
      obtain rfl := Option.some.inj H
      go_wp2
      go_ret
      exact ⟨by first | rfl | (simp [errW_none, errW_some] <;> rfl) | (simp [*, errW_none, errW_some] <;> rfl), by repeat (first | (with_reducible first | exact HB.out | apply below_alloc | apply pw_below_drewN | apply below_drew1) | exact HB.out)⟩

end Go.Proofs.YtijbkiajhicooabDoor.PW

namespace Go.Proofs.YtijbkiajhicooabDoor.PW
open Go.RowKit Go.Proofs.YtijbkiajhicooabDoorW.PrintWords Go.Proofs.YtijbkiajhicooabDoorW.PrintLast Go.Proofs.YtijbkiajhicooabDoorW.PrintMore
attribute [local go_sem] max2_int min2_int max_two min_two max_three min_three max_four min_four   -- for this text's walks alone
set_option linter.unusedVariables false
set_option linter.unusedSimpArgs false

def step_Floor.f (k : Nat) (l0 : List Int) (a1 : Int) : Option (Int × Int) := if a1 < 0 then (some (0, 2)) else (if a1 > (l0.length : Int) then (some (0, 2)) else ((step_inside.f k l0 a1).bind fun t150 => (some (wrap64 (a1 - t150), 0))))
set_option maxHeartbeats 8000000 in
set_option maxRecDepth 100000 in
theorem step_Floor.calls (k : Nat) (A0 : Option Addr) (c0 : Nat) (l0 : List Int) (a1 : Int) (r1 : Int) (r2 : Int) (w : World) (hr0 : Kd.C (Kd.int .u8) w A0 l0.length l0) (hc0 : l0.length ≤ c0) (hL : LaidBad w) (h : step_Floor.f k l0 a1 = some (r1, r2)) :
  Calls Tryd.prog 81 #[.slice A0 l0.length c0, .int .i64 a1] w fun e w' => e = .returned (.tuple #[.int .i64 r1, .int .i64 r2]) ∧ Below w.heap.size w w' := by
 have HR0 := Aside0.mk hr0
 have HC0 := Aside0.mk hc0
 clear hr0 hc0
 have HB := Aside0.mk (Below.refl w.heap.size w)
 have HLB := Aside0.mk hL
 clear hL
 have H : (if a1 < 0 then (some (0, 2)) else (if a1 > (l0.length : Int) then (some (0, 2)) else ((step_inside.f k l0 a1).bind fun t150 => (some (wrap64 (a1 - t150), 0))))) = some (r1, r2) := h
 clear h
 by_cases c3 : a1 < 0
 ·rw [if_pos c3] at H
  have c3b0 : decide (a1 < 0) = true := decide_eq_true c3
  clear c3
  simp only [Option.some.injEq, Prod.mk.injEq] at H
  obtain ⟨rfl, rfl⟩ := H
  go_enter Tryd.func81, Tryd.ntmps81
  go_wp2
  go_ret2
  exact ⟨by first | rfl | (simp [errW_none, errW_some] <;> rfl) | (simp [*, errW_none, errW_some] <;> rfl), by repeat (first | (with_reducible first | exact HB.out | apply below_alloc | apply pw_below_drewN | apply below_drew1) | exact HB.out)⟩
 ·rw [if_neg c3] at H
  have c3b0 : decide (a1 < 0) = false := decide_eq_false c3
  clear c3
  by_cases c4 : a1 > (l0.length : Int)
  ·rw [if_pos c4] at H
   have c4b0 : decide ((l0.length : Int) < a1) = true := decide_eq_true c4
   clear c4
   simp only [Option.some.injEq, Prod.mk.injEq] at H
   obtain ⟨rfl, rfl⟩ := H
   go_enter Tryd.func81, Tryd.ntmps81
   go_wp2
   go_ret2
   exact ⟨by first | rfl | (simp [errW_none, errW_some] <;> rfl) | (simp [*, errW_none, errW_some] <;> rfl), by repeat (first | (with_reducible first | exact HB.out | apply below_alloc | apply pw_below_drewN | apply below_drew1) | exact HB.out)⟩
  ·rw [if_neg c4] at H
   have c4b0 : decide ((l0.length : Int) < a1) = false := decide_eq_false c4
   clear c4
   replace H := Option.bind_eq_some_iff.mp H
   obtain ⟨t150, A50, H⟩ := H
   replace H : (some (wrap64 (a1 - t150), 0)) = some (r1, r2) := H
   have A5 := Aside0.mk A50
   clear A50
   simp only [Option.some.injEq, Prod.mk.injEq] at H
   obtain ⟨rfl, rfl⟩ := H
   go_enter Tryd.func81, Tryd.ntmps81
   go_wp2_with (first | ((with_reducible refine gate_callee (f := 53) rfl ?_); refine goesL_ (some 17) rfl rfl Tryd.func53 (by kernel_rfl) rfl #[.slice A0 l0.length c0, .int .i64 a1] rfl (by (try simp only [List.map_toArray, List.map_cons, List.map_nil]); first | done | rfl | (simp only [List.length_drop, List.length_take]; rfl)) ?_; (with_reducible refine (step_inside.calls k _ _ l0 a1 t150 _ ?side1 ?side2 ?side3 A5.out).mono ?_); (case side1 => repeat (first | exact HR0.out | (with_reducible refine Kd.C_alloc ?_ _) | (with_reducible refine Kd.C_drewN ?_ _) | (with_reducible refine Kd.C_drew ?_))); (case side2 => exact HC0.out); (case side3 => exact laid_below HLB.out (by repeat (first | (with_reducible first | exact HB.out | apply below_alloc | apply pw_below_drewN | apply below_drew1) | exact HB.out))); rintro e w6 ⟨rfl, hb⟩; refine ⟨_, rfl, ?_⟩; have n0_ := Aside0.mk (below_step (by repeat (first | (with_reducible first | exact HB.out | apply below_alloc | apply pw_below_drewN | apply below_drew1) | exact HB.out)) hb); clear HB; have HB := n0_; clear n0_; (try clear hb); (try clear hb2); (try clear hk); (try clear hi)))
   go_ret2
   exact ⟨by first | rfl | (simp [errW_none, errW_some] <;> rfl) | (simp [*, errW_none, errW_some] <;> rfl), by repeat (first | (with_reducible first | exact HB.out | apply below_alloc | apply pw_below_drewN | apply below_drew1) | exact HB.out)⟩

end Go.Proofs.YtijbkiajhicooabDoor.PW

namespace Go.Proofs.YtijbkiajhicooabDoor.PW
open Go.RowKit Go.Proofs.YtijbkiajhicooabDoorW.PrintWords Go.Proofs.YtijbkiajhicooabDoorW.PrintLast Go.Proofs.YtijbkiajhicooabDoorW.PrintMore
attribute [local go_sem] max2_int min2_int max_two min_two max_three min_three max_four min_four   -- for this text's walks alone
set_option linter.unusedVariables false
set_option linter.unusedSimpArgs false

/-- The lines of a text, from place i on: fuel, where the line began, the place, the lines so far. -/
def lineAt (l0 : List Int) : Nat → Int → Int → List S153 → List S153
 | 0, _, _, out => out
 | k + 1, start, i, out =>
  if i < (l0.length : Int) then
   if rd l0 i = 10 then lineAt l0 k (i + 1) (i + 1) (out ++ [⟨start, i, i, i + 1⟩])
   else if rd l0 i = 13 then
    if i + 1 < (l0.length : Int) ∧ rd l0 (i + 1) = 10 then lineAt l0 k (i + 2) (i + 2) (out ++ [⟨start, i, i + 1, i + 2⟩])
    else lineAt l0 k (i + 1) (i + 1) (out ++ [⟨start, i, i, i + 1⟩])
   else lineAt l0 k start (i + 1) out
  else out ++ [⟨start, (l0.length : Int), (l0.length : Int), (l0.length : Int)⟩]
def allLines (l0 : List Int) : List S153 := lineAt l0 (l0.length + 1) 0 0 []
def lines_all.f (l0 : List Int) : Option (List S153) := if l0.length ≤ 4398046511103 then some (allLines l0) else none
set_option maxRecDepth 100000 in
set_option maxHeartbeats 4000000 in
theorem lines_all.walk (A0 : Option Addr) (c0 : Nat) (l0 : List Int) (w : World) (hr0 : Kd.C (Kd.int .u8) w A0 l0.length l0) (hc0 : l0.length ≤ c0) (hlim : l0.length ≤ 4398046511103) :
  Calls Tryd.prog 85 #[.slice A0 l0.length c0] w fun e w' => ∃ v0_ : Value, e = .returned (v0_) ∧ Kd.R k153 153 w' w.heap.size (fun _ => True) v0_ (allLines l0) ∧ Below w.heap.size w w' := by
 have HR := Aside0.mk hr0
 have HC := Aside0.mk hc0
 have hu := Tryd.underlying153
 obtain ⟨L, hL⟩ : ∃ L, allLines l0 = L := ⟨_, rfl⟩
 rw [hL]
 clear hr0 hc0
 go_enter Tryd.func85, Tryd.ntmps85
 go_wp2
 go_step3
 go_wp2
 go_step3
 go_wp2
 go_loopg [3, 4, 5] (l0.length + 1) (fun kq v3 v4 v5 w' => ∃ (out : List S153) (start i : Int), v4 = .int .i64 start ∧ v5 = .int .i64 i ∧ Aside0 (lineAt l0 kq start i out = L) ∧ Aside0 (0 ≤ i ∧ i ≤ (l0.length : Int) ∧ (l0.length : Int) - i < (kq : Int) ∧ (out.length : Int) ≤ i) ∧ Aside0 (Kd.R k153 153 w' w.heap.size (fun _ => True) v3 out) ∧ Aside0 (Below w.heap.size w w'))
 case atStart => exact ⟨[], 0, 0, rfl, rfl, ⟨hL⟩, ⟨by first | omega | (simp; omega)⟩, ⟨Kd.R_nil _ _ _ _ _⟩, ⟨Below.refl _ w⟩⟩
 case round =>
  obtain ⟨out, start, i, rfl, rfl, HA, HI, HO, HB⟩ := hrel
  obtain ⟨i0, i1, i2, i3⟩ := HI.out
  cases gk with
  | zero => exfalso; simp at i2; omega
  | succ kk =>
   have H := HA.out
   clear HA HI
   simp only [lineAt] at H
   have ww1 : wrap64 (i + 1) = i + 1 := by unfold wrap64; omega
   have ww2 : wrap64 (i + 2) = i + 2 := by unfold wrap64; omega
   by_cases hlt : i < (l0.length : Int)
   ·rw [if_pos hlt] at H
    obtain ⟨ad, e1, hx⟩ := Kd.at_int (Kd.C_below HR.out HB.out) i i0 hlt
    cases e1
    obtain ⟨b, hb⟩ : ∃ b, rd l0 i = b := ⟨_, rfl⟩
    rw [hb] at hx H
    have g0 := eq_true i0
    have g1 := eq_true hlt
    have g2 : decide (i < (l0.length : Int)) = true := decide_eq_true hlt
    by_cases h10 : b = 10
    ·rw [if_pos h10] at H
     have hb10 : (b == 10) = true := by simpa using h10
     go_wp2_with ((with_reducible refine gate_builtin (b := .append) (xs := #[.tmp 18, .tmp 25]) rfl ?_); at_builtin; refine Kd.R_append k153 (w0 := w) w.heap.size rfl (.tmp 18) (.tmp 25) 149 153 (.agg #[.int .i64 0, .int .i64 0, .int .i64 0, .int .i64 0]) 32 rfl Tryd.underlying149 info153 rfl (by decide) (by omega) u3 out (⟨start, i, i, i + 1⟩ : S153) [.int .i64 start, .int .i64 i, .int .i64 i, .int .i64 (i + 1)] (fun _ => True) (fun _ => False) rfl rfl (k153_mkM _ _ _ (⟨start, i, i, i + 1⟩ : S153)) (fun _ hk => hk.elim) (fun _ _ => trivial) HO.out HB.out HB.out.size (by omega) ?_; intro v1 w1 ho hb hg hat; have HO2 := Aside0.mk ho; have HB2 := Aside0.mk hb; clear ho hb hg hat)
     go_roundg kk
     case measure => omega
     case rel => exact ⟨out ++ [(⟨start, i, i, i + 1⟩ : S153)], i + 1, i + 1, by first | rfl | (simp [ww1, ww2]; done) | (simp [ww1, ww2]; omega), by first | rfl | (simp [ww1, ww2]; done) | (simp [ww1, ww2]; omega), ⟨H⟩, ⟨by first | omega | (simp; omega)⟩, ⟨HO2.out⟩, ⟨HB2.out⟩⟩
    ·rw [if_neg h10] at H
     have hb10 : (b == 10) = false := by simpa using h10
     by_cases h13 : b = 13
     ·rw [if_pos h13] at H
      have hb13 : (b == 13) = true := by simpa using h13
      by_cases hl2 : i + 1 < (l0.length : Int)
      ·have g3 : decide (i + 1 < (l0.length : Int)) = true := decide_eq_true hl2
       have i01 : 0 ≤ i + 1 := by omega
       obtain ⟨ad2, e2, hx2⟩ := Kd.at_int (Kd.C_below HR.out HB.out) (i + 1) i01 hl2
       cases e2
       obtain ⟨b2, hb2⟩ : ∃ b, rd l0 (i + 1) = b := ⟨_, rfl⟩
       rw [hb2] at hx2 H
       have g4 := eq_true i01
       have g5 := eq_true hl2
       by_cases hb : b2 = 10
       ·rw [if_pos ⟨hl2, hb⟩] at H
        have hbb : (b2 == 10) = true := by simpa using hb
        go_wp2_with ((with_reducible refine gate_builtin (b := .append) (xs := #[.tmp 42, .tmp 50]) rfl ?_); at_builtin; refine Kd.R_append k153 (w0 := w) w.heap.size rfl (.tmp 42) (.tmp 50) 149 153 (.agg #[.int .i64 0, .int .i64 0, .int .i64 0, .int .i64 0]) 32 rfl Tryd.underlying149 info153 rfl (by decide) (by omega) u3 out (⟨start, i, i + 1, i + 2⟩ : S153) [.int .i64 start, .int .i64 i, .int .i64 (i + 1), .int .i64 (i + 2)] (fun _ => True) (fun _ => False) rfl rfl (k153_mkM _ _ _ (⟨start, i, i + 1, i + 2⟩ : S153)) (fun _ hk => hk.elim) (fun _ _ => trivial) HO.out HB.out HB.out.size (by omega) ?_; intro v1 w1 ho hb hg hat; have HO2 := Aside0.mk ho; have HB2 := Aside0.mk hb; clear ho hb hg hat)
        go_roundg kk
        case measure => omega
        case rel => exact ⟨out ++ [(⟨start, i, i + 1, i + 2⟩ : S153)], i + 2, i + 2, by first | rfl | (simp [ww1, ww2]; done) | (simp [ww1, ww2]; omega), by first | rfl | (simp [ww1, ww2]; done) | (simp [ww1, ww2]; omega), ⟨H⟩, ⟨by first | omega | (simp; omega)⟩, ⟨HO2.out⟩, ⟨HB2.out⟩⟩
       ·rw [if_neg (fun h => hb h.2)] at H
        have hbb : (b2 == 10) = false := by simpa using hb
        go_wp2_with ((with_reducible refine gate_builtin (b := .append) (xs := #[.tmp 54, .tmp 61]) rfl ?_); at_builtin; refine Kd.R_append k153 (w0 := w) w.heap.size rfl (.tmp 54) (.tmp 61) 149 153 (.agg #[.int .i64 0, .int .i64 0, .int .i64 0, .int .i64 0]) 32 rfl Tryd.underlying149 info153 rfl (by decide) (by omega) u3 out (⟨start, i, i, i + 1⟩ : S153) [.int .i64 start, .int .i64 i, .int .i64 i, .int .i64 (i + 1)] (fun _ => True) (fun _ => False) rfl rfl (k153_mkM _ _ _ (⟨start, i, i, i + 1⟩ : S153)) (fun _ hk => hk.elim) (fun _ _ => trivial) HO.out HB.out HB.out.size (by omega) ?_; intro v1 w1 ho hb hg hat; have HO2 := Aside0.mk ho; have HB2 := Aside0.mk hb; clear ho hb hg hat)
        go_roundg kk
        case measure => omega
        case rel => exact ⟨out ++ [(⟨start, i, i, i + 1⟩ : S153)], i + 1, i + 1, by first | rfl | (simp [ww1, ww2]; done) | (simp [ww1, ww2]; omega), by first | rfl | (simp [ww1, ww2]; done) | (simp [ww1, ww2]; omega), ⟨H⟩, ⟨by first | omega | (simp; omega)⟩, ⟨HO2.out⟩, ⟨HB2.out⟩⟩
      ·have g3 : decide (i + 1 < (l0.length : Int)) = false := decide_eq_false hl2
       rw [if_neg (fun h => hl2 h.1)] at H
       go_wp2_with ((with_reducible refine gate_builtin (b := .append) (xs := #[.tmp 54, .tmp 61]) rfl ?_); at_builtin; refine Kd.R_append k153 (w0 := w) w.heap.size rfl (.tmp 54) (.tmp 61) 149 153 (.agg #[.int .i64 0, .int .i64 0, .int .i64 0, .int .i64 0]) 32 rfl Tryd.underlying149 info153 rfl (by decide) (by omega) u3 out (⟨start, i, i, i + 1⟩ : S153) [.int .i64 start, .int .i64 i, .int .i64 i, .int .i64 (i + 1)] (fun _ => True) (fun _ => False) rfl rfl (k153_mkM _ _ _ (⟨start, i, i, i + 1⟩ : S153)) (fun _ hk => hk.elim) (fun _ _ => trivial) HO.out HB.out HB.out.size (by omega) ?_; intro v1 w1 ho hb hg hat; have HO2 := Aside0.mk ho; have HB2 := Aside0.mk hb; clear ho hb hg hat)
       go_roundg kk
       case measure => omega
       case rel => exact ⟨out ++ [(⟨start, i, i, i + 1⟩ : S153)], i + 1, i + 1, by first | rfl | (simp [ww1, ww2]; done) | (simp [ww1, ww2]; omega), by first | rfl | (simp [ww1, ww2]; done) | (simp [ww1, ww2]; omega), ⟨H⟩, ⟨by first | omega | (simp; omega)⟩, ⟨HO2.out⟩, ⟨HB2.out⟩⟩
     ·rw [if_neg h13] at H
      have hb13 : (b == 13) = false := by simpa using h13
      go_wp2
      go_roundg kk
      case measure => omega
      case rel => exact ⟨out, start, i + 1, rfl, by first | rfl | (simp [ww1]; done), ⟨H⟩, ⟨by first | omega | (simp; omega)⟩, ⟨HO.out⟩, ⟨HB.out⟩⟩
   ·rw [if_neg hlt] at H
    have g2 : decide (i < (l0.length : Int)) = false := decide_eq_false hlt
    go_wp2_with ((with_reducible refine gate_builtin (b := .append) (xs := #[.tmp 65, .tmp 74]) rfl ?_); at_builtin; refine Kd.R_append k153 (w0 := w) w.heap.size rfl (.tmp 65) (.tmp 74) 149 153 (.agg #[.int .i64 0, .int .i64 0, .int .i64 0, .int .i64 0]) 32 rfl Tryd.underlying149 info153 rfl (by decide) (by omega) u3 out (⟨start, (l0.length : Int), (l0.length : Int), (l0.length : Int)⟩ : S153) [.int .i64 start, .int .i64 (l0.length : Int), .int .i64 (l0.length : Int), .int .i64 (l0.length : Int)] (fun _ => True) (fun _ => False) rfl rfl (k153_mkM _ _ _ (⟨start, (l0.length : Int), (l0.length : Int), (l0.length : Int)⟩ : S153)) (fun _ hk => hk.elim) (fun _ _ => trivial) HO.out HB.out HB.out.size (by omega) ?_; intro v1 w1 ho hb hg hat; have HO2 := Aside0.mk ho; have HB2 := Aside0.mk hb; clear ho hb hg hat)
    go_ret
    exact ⟨_, rfl, by rw [← H]; exact HO2.out, HB2.out⟩

theorem lines_all.calls (A0 : Option Addr) (c0 : Nat) (l0 : List Int) (r : List S153) (w : World) (hr0 : Kd.C (Kd.int .u8) w A0 l0.length l0) (hc0 : l0.length ≤ c0) (h : lines_all.f l0 = some r) :
  Calls Tryd.prog 85 #[.slice A0 l0.length c0] w fun e w' => ∃ v0_ : Value, e = .returned (v0_) ∧ Kd.R k153 153 w' w.heap.size (fun _ => True) v0_ r ∧ Below w.heap.size w w' := by
 unfold lines_all.f at h
 by_cases hl : l0.length ≤ 4398046511103
 ·rw [if_pos hl] at h
  cases h
  exact lines_all.walk A0 c0 l0 w hr0 hc0 hl
 ·rw [if_neg hl] at h
  cases h

end Go.Proofs.YtijbkiajhicooabDoor.PW

namespace Go.Proofs.YtijbkiajhicooabDoor.PW
open Go.RowKit Go.Proofs.YtijbkiajhicooabDoorW.PrintWords Go.Proofs.YtijbkiajhicooabDoorW.PrintLast Go.Proofs.YtijbkiajhicooabDoorW.PrintMore
attribute [local go_sem] max2_int min2_int max_two min_two max_three min_three max_four min_four   -- for this text's walks alone
set_option linter.unusedVariables false
set_option linter.unusedSimpArgs false

def lines_holds.l0 : Nat → List (S153) → Int → Int → Int → Int → Option (Int)
 | 0, _, _, _, _, _ => none
 | k + 1, x0, x1, x5, x8, x9 => if x9 < x8 then (if 0 ≤ x9 then (if x9 < (x0.length : Int) then (if ((rd_T153 x0 x9).f0) > x1 then (some x5) else (lines_holds.l0 k x0 x1 x9 x8 (wrap64 (x9 + 1)))) else (none)) else (none)) else (some x5)
def lines_holds.f (k : Nat) (l0 : List (S153)) (a1 : Int) : Option (Int) := lines_holds.l0 k l0 a1 0 (l0.length : Int) 0
set_option maxHeartbeats 8000000 in
set_option maxRecDepth 100000 in
theorem lines_holds.calls (k : Nat) (A0 : Option Addr) (c0 : Nat) (l0 : List (S153)) (a1 : Int) (r : Int) (w : World) (hr0 : Kd.C k153 w A0 l0.length l0) (hc0 : l0.length ≤ c0) (h : lines_holds.f k l0 a1 = some r) :
  Calls Tryd.prog 86 #[.slice A0 l0.length c0, .int .i64 a1] w fun e w' => e = .returned (.int .i64 r) ∧ Drawn0 w w' := by
 have HR0 := Aside0.mk hr0
 have HC0 := Aside0.mk hc0
 clear hr0 hc0
 have H : (lines_holds.l0 k l0 a1 0 (l0.length : Int) 0) = some r := h
 clear h
 have H' := Aside0.mk H
 clear H
 go_enter Tryd.func86, Tryd.ntmps86
 go_wp2
 go_loopg [5, 9] k (fun kq v5 v9 w' => ∃ (x5_1 : Int) (x9_1 : Int), v5 = .int .i64 x5_1 ∧ v9 = .int .i64 x9_1 ∧ Aside0 (lines_holds.l0 kq l0 a1 x5_1 (l0.length : Int) x9_1 = some r) ∧ Aside0 (kq ≤ k) ∧ Drawn0 w w')
 case atStart => exact ⟨(0), (0), (by first | rfl | (simp; done) | (simp [*]; done)), (by first | rfl | (simp; done) | (simp [*]; done)), H', ⟨Nat.le_refl _⟩, by repeat (first | exact Drawn0.refl _ | apply Drawn0.step)⟩
 case round =>
  clear H'
  try clear p2
  obtain ⟨x5_1, x9_1, rfl, rfl, HA, HK1, ⟨m1, rfl⟩⟩ := hrel
  cases gk with
  | zero => exact absurd HA.out (by simp [lines_holds.l0])
  | succ k1 =>
   have H := HA.out
   clear HA
   simp only [lines_holds.l0] at H
   by_cases c3 : x9_1 < (l0.length : Int)
   ·rw [if_pos c3] at H
    have c3b0 : decide (x9_1 < (l0.length : Int)) = true := decide_eq_true c3
    clear c3
    by_cases c4 : 0 ≤ x9_1
    ·rw [if_pos c4] at H
     have c4b0 : decide (0 ≤ x9_1) = true := decide_eq_true c4
     clear c4
     by_cases c5 : x9_1 < (l0.length : Int)
     ·rw [if_pos c5] at H
      have c5b0 : decide (x9_1 < (l0.length : Int)) = true := decide_eq_true c5
      clear c5
      by_cases c6 : ((rd_T153 l0 x9_1).f0) > a1
      ·rw [if_pos c6] at H
       have c6b0 : decide (a1 < ((rd_T153 l0 x9_1).f0)) = true := decide_eq_true c6
       clear c6
       obtain rfl := Option.some.inj H
       have p151 : 0 ≤ (x9_1 : Int) := of_decide_eq_true (by first | (with_reducible assumption) | assumption)
       have q151 : x9_1 < (l0.length : Int) := of_decide_eq_true (by first | (with_reducible assumption) | assumption)
       obtain ⟨ad151, e151, hx151_0, hx151_1, hx151_2, hx151_3⟩ := at_T153 HR0.out x9_1 p151 q151
       cases e151
       replace p151 := eq_true p151
       replace q151 := eq_true q151
       go_wp2
       go_ret
       exact ⟨by first | rfl | (simp; done) | (simp [*]; done), by repeat (first | exact Drawn0.refl _ | apply Drawn0.step)⟩
      ·rw [if_neg c6] at H
       have c6b0 : decide (a1 < ((rd_T153 l0 x9_1).f0)) = false := decide_eq_false c6
       clear c6
       have H' := Aside0.mk H
       clear H
       have p151 : 0 ≤ (x9_1 : Int) := of_decide_eq_true (by first | (with_reducible assumption) | assumption)
       have q151 : x9_1 < (l0.length : Int) := of_decide_eq_true (by first | (with_reducible assumption) | assumption)
       obtain ⟨ad151, e151, hx151_0, hx151_1, hx151_2, hx151_3⟩ := at_T153 HR0.out x9_1 p151 q151
       cases e151
       replace p151 := eq_true p151
       replace q151 := eq_true q151
       go_wp2
       go_roundg k1
       case measure => have := HK1.out; omega
       case rel => exact ⟨(x9_1), (wrap64 (x9_1 + 1)), (by first | rfl | (simp; done) | (simp [*]; done)), (by first | rfl | (simp; done) | (simp [*]; done)), H', ⟨by have := HK1.out; omega⟩, by repeat (first | exact Drawn0.refl _ | apply Drawn0.step)⟩
     ·rw [if_neg c5] at H
      exact absurd H (by simp)
    ·rw [if_neg c4] at H
     exact absurd H (by simp)
   ·rw [if_neg c3] at H
    have c3b0 : decide (x9_1 < (l0.length : Int)) = false := decide_eq_false c3
    clear c3
    obtain rfl := Option.some.inj H
    go_wp2
    go_ret
    exact ⟨by first | rfl | (simp; done) | (simp [*]; done), by repeat (first | exact Drawn0.refl _ | apply Drawn0.step)⟩

end Go.Proofs.YtijbkiajhicooabDoor.PW

namespace Go.Proofs.YtijbkiajhicooabDoor.PW
open Go.RowKit Go.Proofs.YtijbkiajhicooabDoorW.PrintWords Go.Proofs.YtijbkiajhicooabDoorW.PrintLast Go.Proofs.YtijbkiajhicooabDoorW.PrintMore
attribute [local go_sem] max2_int min2_int max_two min_two max_three min_three max_four min_four   -- for this text's walks alone
set_option linter.unusedVariables false
set_option linter.unusedSimpArgs false

def rule_ruler.f (a0 : Int) : Option (Bool) := if a0 ≥ 1 then (some (decide (a0 ≤ 3))) else (some false)
set_option maxHeartbeats 8000000 in
set_option maxRecDepth 100000 in
theorem rule_ruler.calls (a0 : Int) (r : Bool) (w : World) (h : rule_ruler.f a0 = some r) :
  Calls Tryd.prog 110 #[.int .i64 a0] w fun e w' => e = .returned (.bool r) ∧ Drawn0 w w' := by
 have H : (if a0 ≥ 1 then (some (decide (a0 ≤ 3))) else (some false)) = some r := h
 clear h
 by_cases c2 : a0 ≥ 1
 ·rw [if_pos c2] at H
  have c2b0 : decide (1 ≤ a0) = true := decide_eq_true c2
  clear c2
  obtain rfl := Option.some.inj H
  go_enter Tryd.func110, Tryd.ntmps110
  go_wp2
  go_ret
  exact ⟨by first | rfl | (simp; done) | (simp [*]; done), by repeat (first | exact Drawn0.refl _ | apply Drawn0.step)⟩
 ·rw [if_neg c2] at H
  have c2b0 : decide (1 ≤ a0) = false := decide_eq_false c2
  clear c2
  obtain rfl := Option.some.inj H
  go_enter Tryd.func110, Tryd.ntmps110
  go_wp2
  go_ret
  exact ⟨by first | rfl | (simp; done) | (simp [*]; done), by repeat (first | exact Drawn0.refl _ | apply Drawn0.step)⟩

end Go.Proofs.YtijbkiajhicooabDoor.PW

namespace Go.Proofs.YtijbkiajhicooabDoor.PW
open Go.RowKit Go.Proofs.YtijbkiajhicooabDoorW.PrintWords Go.Proofs.YtijbkiajhicooabDoorW.PrintLast Go.Proofs.YtijbkiajhicooabDoorW.PrintMore
attribute [local go_sem] max2_int min2_int max_two min_two max_three min_three max_four min_four   -- for this text's walks alone
set_option linter.unusedVariables false
set_option linter.unusedSimpArgs false

def utf8_ValidRune.j0 : Nat → Int → Bool → Option (Bool)
 | 0, _, _ => none
 | k + 1, x0, x3 => if x3 = true then (some true) else (if 57343 < x0 then (if x0 ≤ 1114111 then (some true) else (some false)) else (some false))
def utf8_ValidRune.f (k : Nat) (a0 : Int) : Option (Bool) := if 0 ≤ a0 then (utf8_ValidRune.j0 k a0 (decide (a0 < 55296))) else (utf8_ValidRune.j0 k a0 false)
set_option maxHeartbeats 8000000 in
set_option maxRecDepth 100000 in
theorem utf8_ValidRune.calls (k : Nat) (a0 : Int) (r : Bool) (w : World) (h : utf8_ValidRune.f k a0 = some r) :
  Calls Tryd.prog 121 #[.int .i32 a0] w fun e w' => e = .returned (.bool r) ∧ Drawn0 w w' := by
 have H : (if 0 ≤ a0 then (utf8_ValidRune.j0 k a0 (decide (a0 < 55296))) else (utf8_ValidRune.j0 k a0 false)) = some r := h
 clear h
 have HC2 := Aside0.mk H
 clear H
 go_enter Tryd.func121, Tryd.ntmps121
 go_upto_region 1 with (fail)
 go_cut [3] (fun v3 wc => ∃ (kq : Nat) (x3_1 : Bool), v3 = .bool x3_1 ∧ Aside0 (utf8_ValidRune.j0 kq a0 x3_1 = some r) ∧ Aside0 (kq ≤ k) ∧ Drawn0 w wc)
 case first =>
  have H := HC2.out
  clear HC2
  by_cases c3 : 0 ≤ a0
  ·rw [if_pos c3] at H
   have c3b0 : decide (0 ≤ a0) = true := decide_eq_true c3
   clear c3
   (first | rw [c3b0] | (simp only [i64_w, i32_w]; rw [c3b0]) | skip)
   have H' := Aside0.mk H
   clear H
   go_wp2
   go_meet
   case rel => exact ⟨_, (decide (a0 < 55296)), (by first | rfl | (simp; done) | (simp [*]; done)), H', ⟨by first | omega | exact Nat.le_refl _⟩, by repeat (first | exact Drawn0.refl _ | apply Drawn0.step)⟩
  ·rw [if_neg c3] at H
   have c3b0 : decide (0 ≤ a0) = false := decide_eq_false c3
   clear c3
   (first | rw [c3b0] | (simp only [i64_w, i32_w]; rw [c3b0]) | skip)
   have H' := Aside0.mk H
   clear H
   go_wp2
   go_meet
   case rel => exact ⟨_, (false), (by first | rfl | (simp; done) | (simp [*]; done)), H', ⟨by first | omega | exact Nat.le_refl _⟩, by repeat (first | exact Drawn0.refl _ | apply Drawn0.step)⟩
 case rest =>
  clear HC2
  try clear c1
  try clear p2
  try clear c3
  try clear c3b0
  obtain ⟨kq, x3_1, rfl, HA, HJ1, ⟨mc1, rfl⟩⟩ := hcut
  cases kq with
  | zero => exact absurd HA.out (by simp [utf8_ValidRune.j0])
  | succ kj1 =>
   have H := HA.out
   clear HA
   simp only [utf8_ValidRune.j0] at H
   by_cases c4 : x3_1 = true
   ·subst c4
    have H1 : (some true) = some r := by rw [if_pos rfl] at H; exact H
    clear H
    have H := H1
    clear H1
    obtain rfl := Option.some.inj H
    go_wp2
    go_ret
    exact ⟨by first | rfl | (simp; done) | (simp [*]; done), by repeat (first | exact Drawn0.refl _ | apply Drawn0.step)⟩
   ·replace c4 := Bool.eq_false_iff.mpr c4
    subst c4
    have H1 : (if 57343 < a0 then (if a0 ≤ 1114111 then (some true) else (some false)) else (some false)) = some r := by rw [if_neg (show ¬ (false = true) by decide)] at H; exact H
    clear H
    have H := H1
    clear H1
    by_cases c5 : 57343 < a0
    ·rw [if_pos c5] at H
     have c5b0 : decide (57343 < a0) = true := decide_eq_true c5
     clear c5
     by_cases c6 : a0 ≤ 1114111
     ·rw [if_pos c6] at H
      have c6b0 : decide (a0 ≤ 1114111) = true := decide_eq_true c6
      clear c6
      obtain rfl := Option.some.inj H
      go_wp2
      go_ret
      exact ⟨by first | rfl | (simp; done) | (simp [*]; done), by repeat (first | exact Drawn0.refl _ | apply Drawn0.step)⟩
     ·rw [if_neg c6] at H
      have c6b0 : decide (a0 ≤ 1114111) = false := decide_eq_false c6
      clear c6
      obtain rfl := Option.some.inj H
      go_wp2
      go_ret
      exact ⟨by first | rfl | (simp; done) | (simp [*]; done), by repeat (first | exact Drawn0.refl _ | apply Drawn0.step)⟩
    ·rw [if_neg c5] at H
     have c5b0 : decide (57343 < a0) = false := decide_eq_false c5
     clear c5
     obtain rfl := Option.some.inj H
     go_wp2
     go_ret
     exact ⟨by first | rfl | (simp; done) | (simp [*]; done), by repeat (first | exact Drawn0.refl _ | apply Drawn0.step)⟩

end Go.Proofs.YtijbkiajhicooabDoor.PW

namespace Go.Proofs.YtijbkiajhicooabDoor.PW
open Go.RowKit Go.Proofs.YtijbkiajhicooabDoorW.PrintWords Go.Proofs.YtijbkiajhicooabDoorW.PrintLast Go.Proofs.YtijbkiajhicooabDoorW.PrintMore
attribute [local go_sem] max2_int min2_int max_two min_two max_three min_three max_four min_four   -- for this text's walks alone
set_option linter.unusedVariables false
set_option linter.unusedSimpArgs false

def units_Len.f (k : Nat) (a0 : Int) : Option (Int) := (utf8_ValidRune.f k a0).bind fun t101 => (if t101 = true then (if a0 > 65535 then (some 2) else (some 1)) else (some 0))
set_option maxHeartbeats 8000000 in
set_option maxRecDepth 100000 in
theorem units_Len.calls (k : Nat) (a0 : Int) (r : Int) (w : World) (h : units_Len.f k a0 = some r) :
  Calls Tryd.prog 120 #[.int .i32 a0] w fun e w' => e = .returned (.int .i64 r) ∧ Drawn0 w w' := by
 have H : ((utf8_ValidRune.f k a0).bind fun t101 => (if t101 = true then (if a0 > 65535 then (some 2) else (some 1)) else (some 0))) = some r := h
 clear h
 replace H := Option.bind_eq_some_iff.mp H
 obtain ⟨t101, A20, H⟩ := H
 replace H : (if t101 = true then (if a0 > 65535 then (some 2) else (some 1)) else (some 0)) = some r := H
 have A2 := Aside0.mk A20
 clear A20
 by_cases c3 : t101 = true
 ·subst c3
  have H1 : (if a0 > 65535 then (some 2) else (some 1)) = some r := by rw [if_pos rfl] at H; exact H
  clear H
  have H := H1
  clear H1
  by_cases c4 : a0 > 65535
  ·rw [if_pos c4] at H
   have c4b0 : decide (65535 < a0) = true := decide_eq_true c4
   clear c4
   obtain rfl := Option.some.inj H
   go_enter Tryd.func120, Tryd.ntmps120
   go_wp2_with (first | ((with_reducible refine gate_callee (f := 121) rfl ?_); refine goesL_ (some 5) rfl rfl Tryd.func121 (by kernel_rfl) rfl #[.int .i32 a0] rfl (by (try simp only [List.map_toArray, List.map_cons, List.map_nil]); first | done | rfl | (simp only [List.length_drop, List.length_take]; rfl)) ?_; (with_reducible refine (utf8_ValidRune.calls k a0 true _ A2.out).mono ?_); rintro e w' ⟨rfl, ⟨nd, rfl⟩⟩; refine ⟨_, rfl, ?_⟩))
   go_ret
   exact ⟨by first | rfl | (simp; done) | (simp [*]; done), by repeat (first | exact Drawn0.refl _ | apply Drawn0.step)⟩
  ·rw [if_neg c4] at H
   have c4b0 : decide (65535 < a0) = false := decide_eq_false c4
   clear c4
   obtain rfl := Option.some.inj H
   go_enter Tryd.func120, Tryd.ntmps120
   go_wp2_with (first | ((with_reducible refine gate_callee (f := 121) rfl ?_); refine goesL_ (some 5) rfl rfl Tryd.func121 (by kernel_rfl) rfl #[.int .i32 a0] rfl (by (try simp only [List.map_toArray, List.map_cons, List.map_nil]); first | done | rfl | (simp only [List.length_drop, List.length_take]; rfl)) ?_; (with_reducible refine (utf8_ValidRune.calls k a0 true _ A2.out).mono ?_); rintro e w' ⟨rfl, ⟨nd, rfl⟩⟩; refine ⟨_, rfl, ?_⟩))
   go_ret
   exact ⟨by first | rfl | (simp; done) | (simp [*]; done), by repeat (first | exact Drawn0.refl _ | apply Drawn0.step)⟩
 ·replace c3 := Bool.eq_false_iff.mpr c3
  subst c3
  have H1 : (some 0) = some r := by rw [if_neg (show ¬ (false = true) by decide)] at H; exact H
  clear H
  have H := H1
  clear H1
  obtain rfl := Option.some.inj H
  go_enter Tryd.func120, Tryd.ntmps120
  go_wp2_with (first | ((with_reducible refine gate_callee (f := 121) rfl ?_); refine goesL_ (some 5) rfl rfl Tryd.func121 (by kernel_rfl) rfl #[.int .i32 a0] rfl (by (try simp only [List.map_toArray, List.map_cons, List.map_nil]); first | done | rfl | (simp only [List.length_drop, List.length_take]; rfl)) ?_; (with_reducible refine (utf8_ValidRune.calls k a0 false _ A2.out).mono ?_); rintro e w' ⟨rfl, ⟨nd, rfl⟩⟩; refine ⟨_, rfl, ?_⟩))
  go_ret
  exact ⟨by first | rfl | (simp; done) | (simp [*]; done), by repeat (first | exact Drawn0.refl _ | apply Drawn0.step)⟩

end Go.Proofs.YtijbkiajhicooabDoor.PW

namespace Go.Proofs.YtijbkiajhicooabDoor.PW
open Go.RowKit Go.Proofs.YtijbkiajhicooabDoorW.PrintWords Go.Proofs.YtijbkiajhicooabDoorW.PrintLast Go.Proofs.YtijbkiajhicooabDoorW.PrintMore
attribute [local go_sem] max2_int min2_int max_two min_two max_three min_three max_four min_four   -- for this text's walks alone
set_option linter.unusedVariables false
set_option linter.unusedSimpArgs false

/-- A rune's length in units. -/
def unitsLen (r : Int) : Int := if (0 ≤ r ∧ r < 55296) ∨ (57343 < r ∧ r ≤ 1114111) then (if r > 65535 then 2 else 1) else 0
theorem unitsLen_of (r : Int) : units_Len.f 3 r = some (unitsLen r) := by
 unfold units_Len.f utf8_ValidRune.f unitsLen
 simp only [utf8_ValidRune.j0]
 repeat' split
 all_goals first | rfl | (exfalso; simp_all; omega) | (simp_all <;> omega)
/-- An edge by the rulers. -/
abbrev At3 := Int × Int × Int
def addAt (a : At3) (x : PStep) : At3 := (wrap64 (a.1 + x.2.2.1), wrap64 (a.2.1 + 1), wrap64 (a.2.2 + unitsLen x.2.1))
def edgesFrom : At3 → List PStep → List At3
 | _, [] => []
 | a, x :: l => addAt a x :: edgesFrom (addAt a x) l
def allEdges (s : ByteArray) : List At3 := (0, 0, 0) :: edgesFrom (0, 0, 0) (allSteps s)
abbrev encAt (x : At3) : Array Value := #[.agg #[.int .i64 0, .int .i64 x.1, .int .i64 x.2.1, .int .i64 x.2.2]]
def sizeOf3 (l0 : List Int) : At3 := (allSteps (strOfNums l0)).foldl addAt (0, 0, 0)
def rule_size.f (l0 : List Int) (a1 : Int) : Option Int := if l0.length ≤ 4398046511104 then (if a1 = 2 then some (sizeOf3 l0).2.1 else if a1 = 3 then some (sizeOf3 l0).2.2 else none) else none
theorem blk_put4 {W : World} {g : Nat} {t : TypeId} {a0 a1 a2 a3 : Value} (x0 x1 x2 x3 : Value) (h : W.heap[g]? = some (.cells #[a0, a1, a2, a3] t (0, 0))) :
  ((((W.setCell ⟨g, 0, none⟩ x0).setCell ⟨g, 1, none⟩ x1).setCell ⟨g, 2, none⟩ x2).setCell ⟨g, 3, none⟩ x3).heap[g]? = some (.cells #[x0, x1, x2, x3] t (0, 0)) :=
 blk_put (blk_put (blk_put (blk_put h 0 x0 (cs' := #[x0, a1, a2, a3]) rfl) 1 x1 (cs' := #[x0, x1, a2, a3]) rfl) 2 x2 (cs' := #[x0, x1, x2, a3]) rfl) 3 x3 rfl
theorem below_put4 {w W : World} {g n : Nat} (h : Below n w W) (hg : n ≤ g) (x0 x1 x2 x3 : Value) :
  Below n w ((((W.setCell ⟨g, 0, none⟩ x0).setCell ⟨g, 1, none⟩ x1).setCell ⟨g, 2, none⟩ x2).setCell ⟨g, 3, none⟩ x3) :=
 (((h.setCell (p := ⟨g, 0, none⟩) hg _).setCell (p := ⟨g, 1, none⟩) hg _).setCell (p := ⟨g, 2, none⟩) hg _).setCell (p := ⟨g, 3, none⟩) hg _
attribute [local go_sem] Oper.semAt_some
set_option maxRecDepth 100000 in
theorem rule_counts.calls (n : Nat) (h1 : 1 ≤ n) (r wd : Int) (b : Bool) (w : World) :
  CallsIn Fence.wide n Tryd.prog 118 #[.agg #[.int .i32 r, .int .i64 wd, .bool b]] w fun e w' => e = .returned (.agg #[.int .i64 0, .int .i64 wd, .int .i64 1, .int .i64 (unitsLen r)]) ∧ Below w.heap.size w w' := by
 refine callsIn_of_wp Tryd.func118 rfl trivial ?_ rfl
 have hu := Tryd.underlying50
 have hu2 := Tryd.underlying184
 have U := Aside0.mk (unitsLen_of r)
 have hmx : Tryd.prog.follows .mixedOrders = true := by kernel_rfl
 simp only [Tryd.ntmps118, List.size_toArray, List.length_cons, List.length_nil, Nat.reduceAdd, Nat.reduceSub, Array.replicate_succ, Array.replicate_zero, List.push_toArray, List.append_toArray, List.nil_append, List.cons_append]
 gi_wp2
 gi_region_with_o (refine ⟨trivial, ?_⟩; gi_at_call 120; refine (callsIn_wide.2 (units_Len.calls 3 r _ _ U.out)).mono ?_; rintro e w' ⟨rfl, ⟨nd, rfl⟩⟩)
 all_goals gi_wp2
 all_goals refine bodyPost_ret (results_cell_row rfl _ _ (w.heap.size + 1) 184 #[.int .i64 0, .int .i64 wd, .int .i64 1, .int .i64 (unitsLen r)] (0, 0) _ rfl (blk_put4 _ _ _ _ (blk_drewN (by have := blk_new (w.alloc (.cells #[.int .i32 r, .int .i64 wd, .bool b] 50)) (.cells #[.int .i64 0, .int .i64 0, .int .i64 0, .int .i64 0] 184); rwa [World.size_alloc] at this) _)) Tryd.underlying184 rfl (by kernel_rfl)) rfl ?_
 all_goals exact ⟨rfl, below_put4 (pw_below_drewN (((Below.refl _ w).alloc (Nat.le_refl _) _).alloc (by simp) _) _) (by omega) _ _ _ _⟩
def AbidesAll {β : Type} (B : Nat) (J : β → World → Prop) : Prop := ∀ s W W' row, J s W → W.grownBy W' row → (∀ r, row = some r → B ≤ r) → J s W'
def SeqAny {α : Type} (F : Fence) (n : Nat) (P : Program) (g : Nat) (lb : Array Value) (encs : α → Array Value) (Kp : Nat → World → World → Prop) (S : List α → Prop) (w : World) : Prop :=
 ∀ (l : Nat) (J : List α → World → Prop) (W : World), Below w.heap.size w W → w.heap.size ≤ l → l < W.heap.size → AbidesAll W.heap.size J →
  (∀ pre x W1, J pre W1 → YieldAt F (n - 1) P l (encs x) W1 fun e W' => e = .returned (.bool true) ∧ J (pre ++ [x]) W' ∧ Kp l W1 W') → J [] W →
  CallsIn F n P g (#[.func (.yield l) #[] #[]] ++ lb) W fun e W' => (∃ v, e = .returned v) ∧ ∃ xs, S xs ∧ J xs W'
theorem AbidesAll.putObj {β : Type} {B : Nat} {I : β → World → Prop} (h : AbidesAll B I) {s : β} {W : World} {l : Nat} (o' : Obj) (hs : I s W) (hB : B ≤ l) : I s (W.putObj l o') :=
 h s W _ (some l) hs (grownBy_putObj' W l o') (fun r e => by cases e; exact hB)
theorem AbidesAll.alloc {β : Type} {B : Nat} {I : β → World → Prop} (h : AbidesAll B I) {s : β} {W : World} (o : Obj) (hs : I s W) : I s (W.alloc o) :=
 h s W _ none hs (World.grownBy_alloc W o none) (fun r e => by cases e)
theorem wpIn_rangeFunc_any {α : Type} {F : Fence} {n : Nat} {P : Program} {w : World} {g : Operand} {ps : Array Tmp} {assign body : Code} {Q : Exit → Act → World → Prop} {a : Act}
  (hro : F.round = none) (h1 : 1 ≤ n) {gf : Nat} {lb : Array Value} (hg : a.eval g = .func (.func gf) #[] lb) (hFg : F.fn gf) (eg : ∀ args w, (callFunc gf args).run P w = .ok (.enter gf args) w)
  {encs : α → Array Value} {Kp : Nat → World → World → Prop} {S : List α → Prop} {w0 : World} (hseq : SeqAny F (n - 1) P gf lb encs Kp S w0)
  (hKt : ∀ {l : Nat} {A B C : World}, Kp l A B → Kp l B C → Kp l A C) (hKb : ∀ (W : World) (l : Nat) (o o' : Obj), w.heap.size ≤ l → W.heap[l]? = some o → o.isCells = false → o.isWalk = false → Kp l W (W.putObj l o'))
  (hb0 : Below w0.heap.size w0 w) (hps : ∀ x, (encs x).size = ps.size)
  (I : List α → World → Prop) (hI : AbidesAll w.heap.size I) (h0 : I [] w) (Ax : α → Act → World → Prop) (hAx : ∀ x a', OwnFrom w.heap.size (fun (_ : Unit) W => Ax x a' W))
  (hassign : ∀ (l : Nat) (pre : List α) (x : α) (W : World) (K : Act → World → Prop), I pre W → (∀ a' W', KeepsFrom w.heap.size W W' → Kp l W W' → I pre W' → Ax x a' W' → K a' W') →
   assign.wpIn (F.inRound l) (n - 1 - 1) P (Exit.then K (fun _ _ _ => False)) { tmps := (ps.zip (encs x)).foldl (fun t (p, v) => t.setIfInBounds p v) a.tmps, defers := [] } W)
  (hbody : ∀ (l : Nat) (pre : List α) (x : α) (a' : Act) (W : World), I pre W → Ax x a' W → body.wpIn (F.inRound l) (n - 1 - 1) P (fun e _ W3 => e = .normal ∧ KeepsFrom w.heap.size W W3 ∧ Kp l W W3 ∧ I (pre ++ [x]) W3) a' W)
  (hdone : ∀ (D : Nat) (xs : List α) (W : World), w.heap.size ≤ D → S xs → I xs W → W.heap[D]? = some (.deferred (some [])) → Q .normal { a with defers := { target := .collected D, args := #[] } :: a.defers } W) :
  (Code.rangeFunc g ps assign body).wpIn F n P Q a w := by
 refine wpIn_rangeFunc ?_
 intro fn hfn
 rw [hro]
 obtain ⟨rec, hrec⟩ : ∃ rec : LoopState → Option Code → Loop, rec = fun st pe => { state := st, pending := pe, fn, tmps := a.tmps, params := ps, assign, body, defers := w.heap.size } := ⟨_, rfl⟩
 obtain ⟨W1, hW1⟩ : ∃ W1, (w.alloc (.deferred (some []))).alloc (.loop (rec .ready none)) = W1 := ⟨_, rfl⟩
 have hs1 : W1.heap.size = w.heap.size + 2 := by rw [← hW1]; simp
 have hL1 : W1.heap[w.heap.size + 1]? = some (.loop (rec .ready none)) := by
  rw [← hW1]; have := World.alloc_heap_new (w.alloc (.deferred (some []))) (.loop (rec .ready none)); rwa [World.size_alloc] at this
 have hK1 : W1.heap[w.heap.size]? = some (.deferred (some [])) := by
  rw [← hW1]; exact (Below.heap_alloc _ _ _ (by simp)).trans (World.alloc_heap_new w _)
 have hI1 : I [] W1 := by rw [← hW1]; exact hI.alloc _ (hI.alloc _ h0)
 have hb1 : Below w0.heap.size w0 W1 := by
  rw [← hW1]; exact hb0.trans ((((Below.refl _ w).alloc (Nat.le_refl _) _).alloc (by simp) _).mono hb0.size)
 refine ⟨w.heap.size + 1, [{ target := .collected w.heap.size, args := #[] }], W1, { target := .fn (.func gf) lb, args := #[.func (.yield (w.heap.size + 1)) #[] #[]] }, W1, gf,
  #[.func (.yield (w.heap.size + 1)) #[] #[]] ++ lb, W1, ?_, ?_, ?_, ?_, fun _ => h1, ?_⟩
 ·rw [← hW1, hrec]; exact run_enterLoop_outer _ _ _ _ _
 ·simp only [resolve, hg]
  simp [go_sem]
 ·intro f' hf'; simp [Target.leads] at hf'; subst hf'; exact hFg
 ·simp [invoke, go_sem, eg]
 ·refine (hseq (w.heap.size + 1) (fun pre W => I pre W ∧ W.heap[w.heap.size + 1]? = some (.loop (rec .ready none)) ∧ W.heap[w.heap.size]? = some (.deferred (some []))) W1 hb1 (Nat.le_trans hb0.size (by omega)) (by omega)
   (fun s A B row hs hg' hr => ⟨hI s A B row hs.1 hg' (fun r e => by have := hr r e; omega),
    (hg'.block _ (Array.getElem?_eq_some_iff.1 hs.2.1).1 (fun e => by have := hr _ e.symm; omega)).trans hs.2.1,
    (hg'.block _ (Array.getElem?_eq_some_iff.1 hs.2.2).1 (fun e => by have := hr _ e.symm; omega)).trans hs.2.2⟩) ?_ ⟨hI1, hL1, hK1⟩).mono ?_
  ·rintro pre x W ⟨hi, hl, hk⟩
   have hy := run_yield (P := P) (args := encs x) hl (by rw [hrec]; exact hps x)
   rw [hrec] at hy
   refine ⟨fn, _, assign, body, hy, roundIn_of_wpIn hfn (hassign _ pre x W _ hi ?_)⟩
   intro a' Wa hkfa hkpa hia hax
   have hl' := hkfa.same _ _ (by omega) hl rfl
   have hk' := hkfa.same _ _ (Nat.le_refl _) hk rfl
   have hlt : w.heap.size + 1 < Wa.heap.size := (Array.getElem?_eq_some_iff.1 hl').1
   refine ⟨_, run_beginRound hl' (by rw [hrec]), ?_⟩
   obtain ⟨W2, hW2⟩ : ∃ W2, Wa.putObj (w.heap.size + 1) (.loop { rec .ready none with state := .busy }) = W2 := ⟨_, rfl⟩
   have hl2 : W2.heap[w.heap.size + 1]? = some (.loop { rec .ready none with state := .busy }) := by rw [← hW2]; exact World.putObj_heap_same hlt
   have hk2 : W2.heap[w.heap.size]? = some (.deferred (some [])) := by rw [← hW2]; exact (World.putObj_heap_other (by omega)).trans hk'
   have hw2 : Kp (w.heap.size + 1) Wa W2 := by rw [← hW2]; exact hKb _ _ _ _ (by omega) hl' rfl rfl
   have hi2 : I pre W2 := by rw [← hW2]; exact hI.putObj _ hia (by omega)
   have hx2 : Ax x a' W2 := by rw [← hW2]; exact (hAx x a').putObj (s := ()) _ hax (by omega) hl' rfl
   rw [hW2]
   refine wpIn_mono (hbody _ pre x a' _ hi2 hx2) ?_
   rintro e a3 W3 ⟨rfl, hk3, hkp3, hi3⟩
   have hl3 := hk3.same _ _ (by omega) hl2 rfl
   have hr := run_endRound (P := P) none hl3
   rw [hrec] at hr hl3
   refine ⟨_, _, hr, ⟨rfl, ⟨hI.putObj _ hi3 (by omega), ?_, (World.putObj_heap_other (by omega)).trans (hk3.same _ _ (Nat.le_refl _) hk2 rfl)⟩, hKt hkpa (hKt (hKt hw2 hkp3) (hKb _ _ _ _ (by omega) hl3 rfl rfl))⟩⟩
   rw [hrec]; exact World.putObj_heap_same (Array.getElem?_eq_some_iff.1 hl3).1
  ·rintro e W2 ⟨⟨v, rfl⟩, ⟨xs, hS, hi, hl, hk⟩⟩
   exact ⟨none, _, by have := run_endLoop (P := P) hl (by rw [hrec]; simp); rw [hrec] at this; exact this, hdone _ xs _ (Nat.le_refl _) hS (hI.putObj _ hi (by omega)) ((World.putObj_heap_other (by omega)).trans hk)⟩

theorem roundIn_any {n m l l' : Nat} {P : Program} {f : FuncId} {tmps : Array Value} {assign body : Code} {w : World} {R : Ending → World → Prop} (h : RoundIn Fence.wide n P l f tmps assign body w R) : RoundIn (Fence.wide.inRound l') m P l f tmps assign body w R :=
 ⟨h.1, fun c cs _ => h.2 c cs (room_wide _)⟩
theorem roundIn_w {n m l : Nat} {P : Program} {f : FuncId} {tmps : Array Value} {assign body : Code} {w : World} {R : Ending → World → Prop} (h : RoundIn Fence.wide n P l f tmps assign body w R) : RoundIn Fence.wide m P l f tmps assign body w R :=
 ⟨h.1, fun c cs _ => h.2 c cs (room_wide _)⟩
/-- What a round of a loop over the edges leaves: all below n₀, what is walked over, and all but the loop's record and the block Bn. -/
structure KpBut (n₀ Bn l : Nat) (W W' : World) : Prop where
 below : Below n₀ W W'
 walks : KeepsWalks W W'
 same : ∀ (k : Nat) (o : Obj), k ≠ Bn → k ≠ l → W.heap[k]? = some o → W'.heap[k]? = some o
theorem KpBut.t {n₀ Bn l : Nat} {A B C : World} (h : KpBut n₀ Bn l A B) (k : KpBut n₀ Bn l B C) : KpBut n₀ Bn l A C := ⟨h.below.trans k.below, h.walks.trans k.walks, fun i o h1 h2 h3 => k.same i o h1 h2 (h.same i o h1 h2 h3)⟩
theorem foldEdges (l : List PStep) (x : PStep) : (0, 0, 0) :: edgesFrom (0, 0, 0) (l ++ [x]) = ((0, 0, 0) :: edgesFrom (0, 0, 0) l) ++ [addAt (l.foldl addAt (0, 0, 0)) x] := by
 have : ∀ (l : List PStep) (a : At3), edgesFrom a (l ++ [x]) = edgesFrom a l ++ [addAt (l.foldl addAt a) x] := by
  intro l
  induction l with
  | nil => intro a; rfl
  | cons y l ih => intro a; simp only [List.cons_append, edgesFrom, ih, List.foldl_cons]
 rw [this]
 rfl
/-- How a round over the steps is left, within the edges. -/
def EdgesPost (B : Nat) (Kp : World → World → Prop) (I : World → Prop) (W : World) : Exit → Act → World → Prop := fun e _ W2 => e = .normal ∧ KeepsFrom B W W2 ∧ Kp W W2 ∧ I W2
theorem grown_set (W : World) (a : Addr) (v : Value) : W.grownBy (W.setCell a v) (some a.block) :=
 ⟨rfl, rfl, rfl, (KeepsWalks.setCell W _ v).size, fun k _ hk => Below.heap_setCell _ _ _ k (fun e => hk (by rw [e]))⟩
theorem grown_at (W : World) (g i : Nat) (v : Value) : W.grownBy (W.setCell ⟨g, i, none⟩ v) (some g) := grown_set W ⟨g, i, none⟩ v
theorem grown_put4 (W : World) (g : Nat) (x0 x1 x2 x3 : Value) : W.grownBy ((((W.setCell ⟨g, 0, none⟩ x0).setCell ⟨g, 1, none⟩ x1).setCell ⟨g, 2, none⟩ x2).setCell ⟨g, 3, none⟩ x3) (some g) :=
 World.grownBy.trans (World.grownBy.trans (World.grownBy.trans (grown_at W g 0 x0) (grown_at _ g 1 x1)) (grown_at _ g 2 x2)) (grown_at _ g 3 x3)
theorem others_put4 (W : World) (g : Nat) (x0 x1 x2 x3 : Value) : KeepsOthers W ((((W.setCell ⟨g, 0, none⟩ x0).setCell ⟨g, 1, none⟩ x1).setCell ⟨g, 2, none⟩ x2).setCell ⟨g, 3, none⟩ x3) :=
 (((KeepsOthers.setCell W _ x0).trans (KeepsOthers.setCell _ _ x1)).trans (KeepsOthers.setCell _ _ x2)).trans (KeepsOthers.setCell _ _ x3)
set_option maxRecDepth 100000 in
set_option maxHeartbeats 4000000 in
theorem rule_edges1.any (n : Nat) (A0 : Option Addr) (c0 : Nat) (l0 : List Int) (w : World) (hr0 : Kd.C (Kd.int .u8) w A0 l0.length l0) (hc0 : l0.length ≤ c0) (hlim : l0.length ≤ 4398046511104) (hL : LaidBad w) (wS : World) (hwS : Below w.heap.size w wS)
  (Bb Bn : Nat) (hBb : wS.heap[Bb]? = some (.cells #[.slice A0 l0.length c0] 22 (0, 0))) (hne : Bb ≠ Bn) (hBn : Bn < wS.heap.size) :
  SeqAny Fence.wide n Tryd.prog 117 #[.pointer (some ⟨Bb, 0, none⟩)] encAt (KpBut w.heap.size Bn) (fun xs => xs = allEdges (strOfNums l0)) wS := by
 intro l J W hW hlS hl hJ hY h0
 refine callsIn_wide.2 ((callsIn_wide (n := 10)).1 ?_)
 refine callsIn_of_wp_marks Tryd.func117 rfl trivial ?_ rfl
 have hbW := Below.trans hwS (hW.mono hwS.size)
 have hbb : W.heap[Bb]? = some (.cells #[.slice A0 l0.length c0] 22 (0, 0)) := blk_below hBb hW
 have hBnW : Bn < W.heap.size := Nat.lt_of_lt_of_le hBn hW.size
 have hu := Tryd.underlying184
 have hu2 := Tryd.underlying50
 simp only [Tryd.ntmps117, List.size_toArray, List.length_cons, List.length_nil, Nat.reduceAdd, Nat.reduceSub, Array.replicate_succ, Array.replicate_zero, List.push_toArray, List.append_toArray, List.nil_append, List.cons_append]
 obtain ⟨W1, hW1⟩ : ∃ W1, (W.alloc (.cells #[.func (.yield l) #[] #[]] 186)).alloc (.cells #[.int .i64 0, .int .i64 0, .int .i64 0, .int .i64 0] 184) = W1 := ⟨_, rfl⟩
 have hy1 : W1.heap[W.heap.size]? = some (.cells #[.func (.yield l) #[] #[]] 186 (0, 0)) := by rw [← hW1]; exact blk_alloc (blk_new W _) _
 have ha1 : W1.heap[W.heap.size + 1]? = some (.cells #[.int .i64 0, .int .i64 0, .int .i64 0, .int .i64 0] 184 (0, 0)) := by
  rw [← hW1]; have := blk_new (W.alloc (.cells #[.func (.yield l) #[] #[]] 186)) (.cells #[.int .i64 0, .int .i64 0, .int .i64 0, .int .i64 0] 184); rwa [World.size_alloc] at this
 have hb1 : Below W.heap.size W W1 := by rw [← hW1]; exact ((Below.refl _ W).alloc (Nat.le_refl _) _).alloc (by simp) _
 have hs1 : W1.heap.size = W.heap.size + 2 := by rw [← hW1]; simp
 have hJ1 : J [] W1 := by rw [← hW1]; exact hJ.alloc _ (hJ.alloc _ h0)
 obtain ⟨fn, tmps, assign, body, hy, hR⟩ := hY [] (0, 0, 0) W1 hJ1
 have cy := blk_cell hy1 0
 have ca0 := blk_cell ha1 0
 have ca1 := blk_cell ha1 1
 have ca2 := blk_cell ha1 2
 have ca3 := blk_cell ha1 3
 gi_wp2
 refine (roundIn_w hR).mono ?_
 rintro e W3 ⟨rfl, hJ3, hk3⟩
 have hy3 := hk3.same _ _ (by omega) (by omega) hy1
 have ha3 := hk3.same _ _ (by omega) (by omega) ha1
 have hbb3 := hk3.same Bb _ hne (by have := blk_lt hBb; omega) (blk_below hbb hb1)
 have hb3 : Below w.heap.size w W3 := (hbW.trans (hb1.mono hbW.size)).trans hk3.below
 have hsz3 : W.heap.size + 2 ≤ W3.heap.size := by have := hk3.below.size; omega
 clear hy hR hW1 cy ca0 ca1 ca2 ca3 hy1 ha1 hJ1 hb1
 have cb := blk_cell hbb3 0
 have HC3 := Aside0.mk (Kd.C_below hr0 hb3)
 have HC0 := Aside0.mk hr0
 have HY := Aside0.mk hY
 clear hr0 h0 hY
 gi_wp2_with (refine ⟨trivial, ?_⟩; gi_at_call 57; refine (callsIn_wide.2 (step_All.calls A0 c0 l0 _ HC3.out hc0)).mono ?_; rintro e w' ⟨rfl, rfl⟩)
 obtain ⟨W4, hW4⟩ : ∃ W4, W3.alloc (.cells #[.string (strOfNums l0)] 9) = W4 := ⟨_, rfl⟩
 have bs4 : W4.heap[W3.heap.size]? = some (.cells #[.string (strOfNums l0)] 9 (0, 0)) := by rw [← hW4]; exact blk_new W3 _
 have hy4 : W4.heap[W.heap.size]? = some (.cells #[.func (.yield l) #[] #[]] 186 (0, 0)) := by rw [← hW4]; exact blk_alloc hy3 _
 have ha4 : W4.heap[W.heap.size + 1]? = some (.cells #[.int .i64 0, .int .i64 0, .int .i64 0, .int .i64 0] 184 (0, 0)) := by rw [← hW4]; exact blk_alloc ha3 _
 have hb34 : Below W3.heap.size W3 W4 := by rw [← hW4]; exact (Below.refl _ W3).alloc (Nat.le_refl _) _
 have hb4 : Below w.heap.size w W4 := hb3.trans (hb34.mono hb3.size)
 have hs4 : W4.heap.size = W3.heap.size + 1 := by rw [← hW4]; simp
 have hJ4 : J [(0, 0, 0)] W4 := by rw [← hW4]; exact hJ.alloc _ hJ3
 have hL4 := laid_below hL hb4
 have hpos : 0 < w.heap.size := laid_lt hL
 have hns : (strOfNums l0).size ≤ 4398046511104 := by rw [strOfNums_size]; exact hlim
 rw [hW4]
 clear hW4 hy3 ha3 hb34 hJ3 HC3 cb
 refine wpIn_rangeFunc_ownH rfl (by decide) (gf := 88) (lb := #[.pointer (some ⟨W3.heap.size, 0, none⟩)]) rfl trivial (enters_of Tryd.func88 (by kernel_rfl) rfl)
  (step_All1.stops (10 - 1) W3.heap.size w.heap.size (by decide) (strOfNums l0) (by omega) hpos W4 bs4 hb4.size hL4) KpBox.t (KpBox.b hb4.size (by omega)) (Below.refl _ _) (fun _ => rfl)
  (fun pre V => ((Below w.heap.size w V ∧ V.heap[W3.heap.size]? = some (.cells #[.string (strOfNums l0)] 9 (0, 0))) ∧ V.heap[W.heap.size]? = some (.cells #[.func (.yield l) #[] #[]] 186 (0, 0)) ∧
   V.heap[W.heap.size + 1]? = some (.cells #[.int .i64 0, .int .i64 (pre.foldl addAt (0, 0, 0)).1, .int .i64 (pre.foldl addAt (0, 0, 0)).2.1, .int .i64 (pre.foldl addAt (0, 0, 0)).2.2] 184 (0, 0))) ∧ J ((0, 0, 0) :: edgesFrom (0, 0, 0) pre) V)
  (fun _ _ _ => False)
  (fun s X Y row hs hg hr => ⟨⟨⟨ownFrom_below (Nat.le_refl _) (Nat.le_trans hbW.size (by omega)) s X Y row hs.1.1.1 hg hr, blk_abides hs.1.1.2 hg (fun r e => (hr r e).2)⟩, blk_abides hs.1.2.1 hg (fun r e => (hr r e).2), blk_abides hs.1.2.2 hg (fun r e => (hr r e).2)⟩,
   hJ _ X Y row hs.2 hg (fun r e => by have := (hr r e).1; omega)⟩)
  (fun _ _ _ _ _ hs _ _ => hs)
  ⟨⟨⟨hb4, bs4⟩, hy4, ha4⟩, hJ4⟩
  (fun x a' V => ∃ Bx, W4.heap.size ≤ Bx ∧ V.heap[Bx]? = some (.cells #[.int .i32 x.2.1, .int .i64 x.2.2.1, .bool x.2.2.2] 50 (0, 0)) ∧ a' = { tmps := #[.func (.yield l) #[] #[], .pointer (some ⟨Bb, 0, none⟩), .pointer (some ⟨W.heap.size, 0, none⟩), .pointer (some ⟨W.heap.size + 1, 0, none⟩), undef, .pointer (some ⟨Bx, 0, none⟩), undef, undef, .func (.yield l) #[] #[], .agg #[.int .i64 0, .int .i64 0, .int .i64 0, .int .i64 0], .bool true, .bool false, .slice A0 l0.length c0, .func (.func 88) #[] #[.pointer (some ⟨W3.heap.size, 0, none⟩)], .int .i64 x.1, .agg #[.int .i32 x.2.1, .int .i64 x.2.2.1, .bool x.2.2.2], undef, undef, undef, undef, undef, undef, undef, undef, undef, undef, undef, undef, undef, undef, undef, undef, undef], defers := [] })
  (fun x a' _ X Y row hs hg hr => by obtain ⟨Bx, h1, h2, h3⟩ := hs; exact ⟨Bx, h1, blk_abides h2 hg (fun r e => (hr r e).2), h3⟩)
  ?assign ?body ?done ?stop
 case assign =>
  rintro l' pre x V K ⟨⟨⟨hB, hbs⟩, hy, ha⟩, hj⟩ hK
  gi_wp2
  have hlt := blk_lt hbs
  exact hK _ _ ((KeepsOthers.alloc _ _).from _) (KpBox.of ((Below.refl _ V).alloc hB.size _) ((blk_alloc hbs _).trans hbs.symm) (KeepsOthers.alloc _ _)) ⟨⟨⟨hB.alloc hB.size _, blk_alloc hbs _⟩, blk_alloc hy _, blk_alloc ha _⟩, hJ.alloc _ hj⟩ ⟨V.heap.size, by omega, blk_new V _, rfl⟩
 case body =>
  rintro l' pre x a' V hl' ⟨r, hr⟩ ⟨⟨⟨hB, hbs⟩, hy, ha⟩, hj⟩ ⟨Bx, hBx, hbx, rfl⟩ hlen
  obtain ⟨xp, xr, xw, xb⟩ := x
  dsimp only at hbx ⊢
  refine wpIn_mono (Q := EdgesPost W4.heap.size (KpBox w.heap.size W3.heap.size) (fun V2 => ((Below w.heap.size w V2 ∧ V2.heap[W3.heap.size]? = some (.cells #[.string (strOfNums l0)] 9 (0, 0))) ∧ V2.heap[W.heap.size]? = some (.cells #[.func (.yield l) #[] #[]] 186 (0, 0)) ∧
   V2.heap[W.heap.size + 1]? = some (.cells #[.int .i64 0, .int .i64 ((pre ++ [(xp, xr, xw, xb)]).foldl addAt (0, 0, 0)).1, .int .i64 ((pre ++ [(xp, xr, xw, xb)]).foldl addAt (0, 0, 0)).2.1, .int .i64 ((pre ++ [(xp, xr, xw, xb)]).foldl addAt (0, 0, 0)).2.2] 184 (0, 0))) ∧ J ((0, 0, 0) :: edgesFrom (0, 0, 0) (pre ++ [(xp, xr, xw, xb)])) V2) V) ?walk ?post
  case post =>
   rintro e a2 V2 ⟨rfl, g1, g2, g3⟩
   exact ⟨g1, g2, g3⟩
  rw [foldEdges, List.foldl_append, List.foldl_cons, List.foldl_nil]
  generalize (0, 0, 0) :: edgesFrom (0, 0, 0) pre = ys at *
  generalize pre.foldl addAt (0, 0, 0) = at0 at *
  obtain ⟨p0, p1, p2⟩ := at0
  have h1' : 1 ≤ 10 - 1 - 1 := by decide
  have cx0 := blk_cell hbx 0
  have cx1 := blk_cell hbx 1
  have cx2 := blk_cell hbx 2
  have hlt := blk_lt hbs
  gi_wp2_with (fail)
  refine ⟨trivial, ?_⟩
  gi_at_call 118
  refine (CallsIn.inRound l' (rule_counts.calls _ (by decide) xr xw xb V)).mono ?_
  rintro e Vk ⟨rfl, hbk⟩
  have hyk := blk_below hy hbk
  have hak := blk_below ha hbk
  have hbsk := blk_below hbs hbk
  have hjk : J ys Vk := hJ _ _ _ none hj (grown_of_below hbk none) (fun r e => by cases e)
  have hBk : Below w.heap.size w Vk := hB.trans (hbk.mono hB.size)
  have HOk := Aside0.mk (KeepsOthers.of_grownBy (grown_of_below hbk none) (fun j o hj _ => by cases hj))
  have HBK := Aside0.mk (hbk.mono hB.size)
  have HSS := Aside0.mk (hbsk.trans hbs.symm)
  clear hbk cx0 cx1 cx2 hbx hy ha hbs hj hr
  have cy := blk_cell hyk 0
  have ca0 := blk_cell hak 0
  have ca1 := blk_cell hak 1
  have ca2 := blk_cell hak 2
  have ca3 := blk_cell hak 3
  have fa0 := blk_frozen hak 0
  have fa1 := blk_frozen hak 1
  have fa2 := blk_frozen hak 2
  have fa3 := blk_frozen hak 3
  generalize hut : unitsLen xr = ut at *
  obtain ⟨V5, hV5⟩ : ∃ V5, ((((Vk.setCell ⟨W.heap.size + 1, 0, none⟩ (.int .i64 0)).setCell ⟨W.heap.size + 1, 1, none⟩ (.int .i64 (wrap64 (p0 + xw)))).setCell ⟨W.heap.size + 1, 2, none⟩ (.int .i64 (wrap64 (p1 + 1)))).setCell ⟨W.heap.size + 1, 3, none⟩ (.int .i64 (wrap64 (p2 + ut)))) = V5 := ⟨_, rfl⟩
  have ha5 : V5.heap[W.heap.size + 1]? = some (.cells #[.int .i64 0, .int .i64 (wrap64 (p0 + xw)), .int .i64 (wrap64 (p1 + 1)), .int .i64 (wrap64 (p2 + ut))] 184 (0, 0)) := by rw [← hV5]; exact blk_put4 _ _ _ _ hak
  have hg5 : Vk.grownBy V5 (some (W.heap.size + 1)) := by rw [← hV5]; exact grown_put4 _ _ _ _ _ _
  have ho5 : KeepsOthers Vk V5 := by rw [← hV5]; exact others_put4 _ _ _ _ _ _
  have hb5 : Below w.heap.size Vk V5 := by rw [← hV5]; exact below_put4 (Below.refl _ _) (by have := hbW.size; omega) _ _ _ _
  have hy5 := blk_grown hyk hg5 (by simp)
  have hbs5 := blk_grown hbsk hg5 (by simp; omega)
  have hj5 : J ys V5 := hJ _ _ _ _ hjk hg5 (fun r e => by cases e; omega)
  obtain ⟨fn, tmps, assign, body, hy, hR⟩ := HY.out ys (wrap64 (p0 + xw), wrap64 (p1 + 1), wrap64 (p2 + ut)) V5 hj5
  dsimp only [encAt] at hy
  have cy5 := blk_cell hy5 0
  have d0 := blk_cell ha5 0
  have d1 := blk_cell ha5 1
  have d2 := blk_cell ha5 2
  have d3 := blk_cell ha5 3
  gi_wp2
  have ix0 : ∀ (a b c d : Int) (w : World), (Instr.index 184 (.agg #[.int .i64 a, .int .i64 b, .int .i64 c, .int .i64 d]) (.int .i64 0)).run Tryd.prog w = .ok (.int .i64 a) w := by intros; kernel_rfl
  have ix1 : ∀ (a b c d : Int) (w : World), (Instr.index 184 (.agg #[.int .i64 a, .int .i64 b, .int .i64 c, .int .i64 d]) (.int .i64 1)).run Tryd.prog w = .ok (.int .i64 b) w := by intros; kernel_rfl
  have ix2 : ∀ (a b c d : Int) (w : World), (Instr.index 184 (.agg #[.int .i64 a, .int .i64 b, .int .i64 c, .int .i64 d]) (.int .i64 2)).run Tryd.prog w = .ok (.int .i64 c) w := by intros; kernel_rfl
  have ix3 : ∀ (a b c d : Int) (w : World), (Instr.index 184 (.agg #[.int .i64 a, .int .i64 b, .int .i64 c, .int .i64 d]) (.int .i64 3)).run Tryd.prog w = .ok (.int .i64 d) w := by intros; kernel_rfl
  refine wpIn_loop_rounds 5 ?_
  rw [roundsIn_succ]
  gi_wp2
  rw [roundsIn_succ]
  gi_wp2
  rw [roundsIn_succ]
  gi_wp2
  rw [roundsIn_succ]
  gi_wp2
  rw [roundsIn_succ]
  gi_wp2
  refine (roundIn_any hR).mono ?_
  rintro e V6 ⟨rfl, hj6, hk6⟩
  clear hy hR hV5 cy ca0 ca1 ca2 ca3 fa0 fa1 fa2 fa3 d0 d1 d2 d3 cy5
  gi_wp2
  have ha6 := hk6.same _ _ (by omega) (by omega) ha5
  have hy6 := hk6.same _ _ (by omega) (by omega) hy5
  have hbs6 := hk6.same _ _ (by omega) (by omega) hbs5
  refine ⟨rfl, ((HOk.out.trans ho5).from _).trans ⟨hk6.below.size, fun k o hk ho _ => hk6.same k o (by omega) (by omega) ho⟩, ⟨(HBK.out.trans hb5).trans hk6.below, ?_, (HOk.out.trans ho5).walks.trans hk6.walks⟩, ⟨⟨(hBk.trans hb5).trans hk6.below, hbs6⟩, hy6, ?_⟩, ?_⟩
  ·exact hbs6.trans (hbsk.symm.trans HSS.out)
  ·simpa [addAt, hut] using ha6
  ·simpa [addAt, hut] using hj6
 case done =>
  rintro D zs V hD rfl ⟨⟨⟨hB, hbs⟩, hy, ha⟩, hj⟩ hK
  gi_wp2
  refine ⟨by simp, .inl ⟨_, _, rfl, run_takeDeferred hK, ?_⟩⟩
  exact ⟨_, results_none rfl _ _ _, ⟨_, rfl⟩, _, rfl, hJ.putObj _ hj (show W.heap.size ≤ D by omega)⟩
 case stop =>
  rintro D c pre W _ _ h _
  exact h.elim

theorem rule_edges.calls (A0 : Option Addr) (c0 : Nat) (l0 : List Int) (w : World) :
  Calls Tryd.prog 115 #[.slice A0 l0.length c0] w fun e w' => e = .returned (.func (.func 117) #[] #[.pointer (some ⟨w.heap.size, 0, none⟩)]) ∧ w' = w.alloc (.cells #[.slice A0 l0.length c0] 22) := by
 go_enter Tryd.func115, Tryd.ntmps115
 go_wp2
 go_ret
 exact ⟨rfl, rfl⟩
theorem foldEdges_last (l : List PStep) : ∀ a : At3, ∃ ys, a :: edgesFrom a l = ys ++ [l.foldl addAt a] := by
 induction l with
 | nil => intro a; exact ⟨[], rfl⟩
 | cons x l ih =>
  intro a
  obtain ⟨ys, h⟩ := ih (addAt a x)
  exact ⟨a :: ys, by simp only [edgesFrom, h, List.cons_append, List.foldl_cons]⟩
def lastAt (l : List At3) : At3 := (l.getLast?).getD (0, 0, 0)
theorem lastAt_snoc (l : List At3) (x : At3) : lastAt (l ++ [x]) = x := by simp [lastAt]
theorem lastAt_all (l0 : List Int) : lastAt (allEdges (strOfNums l0)) = sizeOf3 l0 := by
 obtain ⟨ys, h⟩ := foldEdges_last (allSteps (strOfNums l0)) (0, 0, 0)
 unfold allEdges
 rw [h, lastAt_snoc]
 rfl
def SizePost (B Bn l : Nat) (n₀ : Nat) (I : World → Prop) (W : World) : Exit → Act → World → Prop := fun e _ W2 => e = .normal ∧ KeepsFrom B W W2 ∧ KpBut n₀ Bn l W W2 ∧ I W2

set_option maxRecDepth 100000 in
set_option maxHeartbeats 4000000 in
theorem rule_size.walk2 (A0 : Option Addr) (c0 : Nat) (l0 : List Int) (w : World) (hr0 : Kd.C (Kd.int .u8) w A0 l0.length l0) (hc0 : l0.length ≤ c0) (hL : LaidBad w) (hlim : l0.length ≤ 4398046511104) :
  Calls Tryd.prog 111 #[.slice A0 l0.length c0, .int .i64 2] w fun e w' => e = .returned (.int .i64 (sizeOf3 l0).2.1) ∧ Below w.heap.size w w' := by
 refine (callsIn_wide (n := 10)).1 ?_
 refine callsIn_of_wp_marks Tryd.func111 rfl trivial ?_ rfl
 have hu := Tryd.underlying184
 rw [← lastAt_all]
 simp only [Tryd.ntmps111, List.size_toArray, List.length_cons, List.length_nil, Nat.reduceAdd, Nat.reduceSub, Array.replicate_succ, Array.replicate_zero, List.push_toArray, List.append_toArray, List.nil_append, List.cons_append]
 gi_wp2_with (refine ⟨trivial, ?_⟩; gi_at_call 115; refine (callsIn_wide.2 (rule_edges.calls A0 c0 l0 _)).mono ?_; rintro e w' ⟨rfl, rfl⟩)
 obtain ⟨W1, hW1⟩ : ∃ W1, ((w.alloc (.cells #[.int .i64 2] 155)).alloc (.cells #[.int .i64 0] 3)).alloc (.cells #[.slice A0 l0.length c0] 22) = W1 := ⟨_, rfl⟩
 have hr1 : W1.heap[w.heap.size]? = some (.cells #[.int .i64 2] 155 (0, 0)) := by rw [← hW1]; exact blk_alloc (blk_alloc (blk_new w _) _) _
 have hn1 : W1.heap[w.heap.size + 1]? = some (.cells #[.int .i64 0] 3 (0, 0)) := by
  rw [← hW1]; have := blk_new (w.alloc (.cells #[.int .i64 2] 155)) (.cells #[.int .i64 0] 3); rw [World.size_alloc] at this; exact blk_alloc this _
 have hb1 : W1.heap[w.heap.size + 2]? = some (.cells #[.slice A0 l0.length c0] 22 (0, 0)) := by
  rw [← hW1]; have := blk_new ((w.alloc (.cells #[.int .i64 2] 155)).alloc (.cells #[.int .i64 0] 3)) (.cells #[.slice A0 l0.length c0] 22); rwa [World.size_alloc, World.size_alloc] at this
 have hB1 : Below w.heap.size w W1 := by rw [← hW1]; exact (((Below.refl _ w).alloc (Nat.le_refl _) _).alloc (by simp) _).alloc (by simp; omega) _
 have hs1 : W1.heap.size = w.heap.size + 3 := by rw [← hW1]; simp
 rw [show w.heap.size + 1 + 1 = w.heap.size + 2 from rfl]
 rw [hW1]
 clear hW1
 refine wpIn_rangeFunc_any rfl (by decide) (gf := 117) (lb := #[.pointer (some ⟨w.heap.size + 2, 0, none⟩)]) rfl trivial (enters_of Tryd.func117 (by kernel_rfl) rfl)
  (rule_edges1.any (10 - 1) A0 c0 l0 w hr0 hc0 hlim hL W1 hB1 (w.heap.size + 2) (w.heap.size + 1) hb1 (by omega) (by omega)) KpBut.t
  (fun V l o o' hl ho hc hw => ⟨belowK_b hB1.size V l o o' hl ho hc hw, KeepsWalks.putObj _ ho hw, fun k x _ hk hx => (World.putObj_heap_other hk).trans hx⟩) (Below.refl _ _) (fun _ => rfl)
  (fun pre V => (Below w.heap.size w V ∧ W1.heap.size ≤ V.heap.size) ∧ V.heap[w.heap.size]? = some (.cells #[.int .i64 2] 155 (0, 0)) ∧ V.heap[w.heap.size + 1]? = some (.cells #[.int .i64 (lastAt pre).2.1] 3 (0, 0)))
  (fun s X Y row hs hg hr => ⟨⟨hs.1.1.grown hg hs.1.1.size (fun r e => by have := hr r e; omega), Nat.le_trans hs.1.2 hg.size⟩, blk_grown hs.2.1 hg (fun e => by have := hr _ e.symm; omega), blk_grown hs.2.2 hg (fun e => by have := hr _ e.symm; omega)⟩)
  ⟨⟨hB1, Nat.le_refl _⟩, hr1, hn1⟩
  (fun x a' V => ∃ Bx, W1.heap.size ≤ Bx ∧ V.heap[Bx]? = some (.cells #[.int .i64 0, .int .i64 x.1, .int .i64 x.2.1, .int .i64 x.2.2] 184 (0, 0)) ∧ a' = { tmps := #[.slice A0 l0.length c0, .int .i64 2, undef, .pointer (some ⟨w.heap.size, 0, none⟩), .int .i64 0, .pointer (some ⟨w.heap.size + 1, 0, none⟩), .pointer (some ⟨Bx, 0, none⟩), .slice A0 l0.length c0, .func (.func 117) #[] #[.pointer (some ⟨w.heap.size + 2, 0, none⟩)], .agg #[.int .i64 0, .int .i64 x.1, .int .i64 x.2.1, .int .i64 x.2.2], undef, undef, undef, undef], defers := [] })
  (fun x a' _ X Y row hs hg hr => by obtain ⟨Bx, h1, h2, h3⟩ := hs; exact ⟨Bx, h1, blk_abides h2 hg (fun r e => (hr r e).2), h3⟩)
  ?assign ?body ?done
 case assign =>
  rintro l pre x V K ⟨⟨hB, hsv⟩, hr, hn⟩ hK
  gi_wp2
  exact hK _ _ ((KeepsOthers.alloc _ _).from _) ⟨(Below.refl _ V).alloc hB.size _, (KeepsOthers.alloc _ _).walks, fun k o _ _ h => (Below.heap_alloc _ _ _ (blk_lt h)).trans h⟩ ⟨⟨hB.alloc hB.size _, by simp; omega⟩, blk_alloc hr _, blk_alloc hn _⟩ ⟨V.heap.size, hsv, blk_new V _, rfl⟩
 case body =>
  rintro l pre x a' V ⟨⟨hB, hsv⟩, hr, hn⟩ ⟨Bx, hBx, hbx, rfl⟩
  rw [lastAt_snoc]
  obtain ⟨x1, x2, x3⟩ := x
  dsimp only at hbx ⊢
  have cr := blk_cell hr 0
  have fn0 := blk_frozen hn 0
  have cn0 := blk_cell hn 0
  have cx0 := blk_cell hbx 0
  have cx1 := blk_cell hbx 1
  have cx2 := blk_cell hbx 2
  have cx3 := blk_cell hbx 3
  refine wpIn_mono (Q := SizePost W1.heap.size (w.heap.size + 1) l w.heap.size (fun V2 => (Below w.heap.size w V2 ∧ W1.heap.size ≤ V2.heap.size) ∧ V2.heap[w.heap.size]? = some (.cells #[.int .i64 2] 155 (0, 0)) ∧ V2.heap[w.heap.size + 1]? = some (.cells #[.int .i64 x2] 3 (0, 0))) V) ?walk (fun e _ V2 h => h)
  gi_wp2
  refine ⟨rfl, (KeepsOthers.setCell _ _ _).from _, ⟨(Below.refl _ _).setCell (p := ⟨w.heap.size + 1, 0, none⟩) (Nat.le_succ _) _, KeepsWalks.setCell _ _ _, fun k o hk _ h => (Below.heap_setCell _ _ _ k hk).trans h⟩, ⟨hB.setCell (p := ⟨w.heap.size + 1, 0, none⟩) (Nat.le_succ _) _, by simpa using hsv⟩, blk_far hr (p := ⟨w.heap.size + 1, 0, none⟩) (by simp) _, blk_set hn 0 _⟩
 case done =>
  rintro D zs V hD rfl ⟨⟨hB, hsv⟩, hr, hn⟩ hK
  have cn := blk_cell hn 0
  gi_wp2
  refine ⟨by simp, .inl ⟨_, _, rfl, run_takeDeferred hK, ?_⟩⟩
  exact ⟨_, results_tmp rfl _ _ _, rfl, hB.trans (belowK_b (w := w) (Nat.le_refl _) V D _ _ (by omega) hK rfl rfl)⟩

set_option maxRecDepth 100000 in
set_option maxHeartbeats 4000000 in
theorem rule_size.walk3 (A0 : Option Addr) (c0 : Nat) (l0 : List Int) (w : World) (hr0 : Kd.C (Kd.int .u8) w A0 l0.length l0) (hc0 : l0.length ≤ c0) (hL : LaidBad w) (hlim : l0.length ≤ 4398046511104) :
  Calls Tryd.prog 111 #[.slice A0 l0.length c0, .int .i64 3] w fun e w' => e = .returned (.int .i64 (sizeOf3 l0).2.2) ∧ Below w.heap.size w w' := by
 refine (callsIn_wide (n := 10)).1 ?_
 refine callsIn_of_wp_marks Tryd.func111 rfl trivial ?_ rfl
 have hu := Tryd.underlying184
 rw [← lastAt_all]
 simp only [Tryd.ntmps111, List.size_toArray, List.length_cons, List.length_nil, Nat.reduceAdd, Nat.reduceSub, Array.replicate_succ, Array.replicate_zero, List.push_toArray, List.append_toArray, List.nil_append, List.cons_append]
 gi_wp2_with (refine ⟨trivial, ?_⟩; gi_at_call 115; refine (callsIn_wide.2 (rule_edges.calls A0 c0 l0 _)).mono ?_; rintro e w' ⟨rfl, rfl⟩)
 obtain ⟨W1, hW1⟩ : ∃ W1, ((w.alloc (.cells #[.int .i64 3] 155)).alloc (.cells #[.int .i64 0] 3)).alloc (.cells #[.slice A0 l0.length c0] 22) = W1 := ⟨_, rfl⟩
 have hr1 : W1.heap[w.heap.size]? = some (.cells #[.int .i64 3] 155 (0, 0)) := by rw [← hW1]; exact blk_alloc (blk_alloc (blk_new w _) _) _
 have hn1 : W1.heap[w.heap.size + 1]? = some (.cells #[.int .i64 0] 3 (0, 0)) := by
  rw [← hW1]; have := blk_new (w.alloc (.cells #[.int .i64 3] 155)) (.cells #[.int .i64 0] 3); rw [World.size_alloc] at this; exact blk_alloc this _
 have hb1 : W1.heap[w.heap.size + 2]? = some (.cells #[.slice A0 l0.length c0] 22 (0, 0)) := by
  rw [← hW1]; have := blk_new ((w.alloc (.cells #[.int .i64 3] 155)).alloc (.cells #[.int .i64 0] 3)) (.cells #[.slice A0 l0.length c0] 22); rwa [World.size_alloc, World.size_alloc] at this
 have hB1 : Below w.heap.size w W1 := by rw [← hW1]; exact (((Below.refl _ w).alloc (Nat.le_refl _) _).alloc (by simp) _).alloc (by simp; omega) _
 have hs1 : W1.heap.size = w.heap.size + 3 := by rw [← hW1]; simp
 rw [show w.heap.size + 1 + 1 = w.heap.size + 2 from rfl]
 rw [hW1]
 clear hW1
 refine wpIn_rangeFunc_any rfl (by decide) (gf := 117) (lb := #[.pointer (some ⟨w.heap.size + 2, 0, none⟩)]) rfl trivial (enters_of Tryd.func117 (by kernel_rfl) rfl)
  (rule_edges1.any (10 - 1) A0 c0 l0 w hr0 hc0 hlim hL W1 hB1 (w.heap.size + 2) (w.heap.size + 1) hb1 (by omega) (by omega)) KpBut.t
  (fun V l o o' hl ho hc hw => ⟨belowK_b hB1.size V l o o' hl ho hc hw, KeepsWalks.putObj _ ho hw, fun k x _ hk hx => (World.putObj_heap_other hk).trans hx⟩) (Below.refl _ _) (fun _ => rfl)
  (fun pre V => (Below w.heap.size w V ∧ W1.heap.size ≤ V.heap.size) ∧ V.heap[w.heap.size]? = some (.cells #[.int .i64 3] 155 (0, 0)) ∧ V.heap[w.heap.size + 1]? = some (.cells #[.int .i64 (lastAt pre).2.2] 3 (0, 0)))
  (fun s X Y row hs hg hr => ⟨⟨hs.1.1.grown hg hs.1.1.size (fun r e => by have := hr r e; omega), Nat.le_trans hs.1.2 hg.size⟩, blk_grown hs.2.1 hg (fun e => by have := hr _ e.symm; omega), blk_grown hs.2.2 hg (fun e => by have := hr _ e.symm; omega)⟩)
  ⟨⟨hB1, Nat.le_refl _⟩, hr1, hn1⟩
  (fun x a' V => ∃ Bx, W1.heap.size ≤ Bx ∧ V.heap[Bx]? = some (.cells #[.int .i64 0, .int .i64 x.1, .int .i64 x.2.1, .int .i64 x.2.2] 184 (0, 0)) ∧ a' = { tmps := #[.slice A0 l0.length c0, .int .i64 3, undef, .pointer (some ⟨w.heap.size, 0, none⟩), .int .i64 0, .pointer (some ⟨w.heap.size + 1, 0, none⟩), .pointer (some ⟨Bx, 0, none⟩), .slice A0 l0.length c0, .func (.func 117) #[] #[.pointer (some ⟨w.heap.size + 2, 0, none⟩)], .agg #[.int .i64 0, .int .i64 x.1, .int .i64 x.2.1, .int .i64 x.2.2], undef, undef, undef, undef], defers := [] })
  (fun x a' _ X Y row hs hg hr => by obtain ⟨Bx, h1, h2, h3⟩ := hs; exact ⟨Bx, h1, blk_abides h2 hg (fun r e => (hr r e).2), h3⟩)
  ?assign ?body ?done
 case assign =>
  rintro l pre x V K ⟨⟨hB, hsv⟩, hr, hn⟩ hK
  gi_wp2
  exact hK _ _ ((KeepsOthers.alloc _ _).from _) ⟨(Below.refl _ V).alloc hB.size _, (KeepsOthers.alloc _ _).walks, fun k o _ _ h => (Below.heap_alloc _ _ _ (blk_lt h)).trans h⟩ ⟨⟨hB.alloc hB.size _, by simp; omega⟩, blk_alloc hr _, blk_alloc hn _⟩ ⟨V.heap.size, hsv, blk_new V _, rfl⟩
 case body =>
  rintro l pre x a' V ⟨⟨hB, hsv⟩, hr, hn⟩ ⟨Bx, hBx, hbx, rfl⟩
  rw [lastAt_snoc]
  obtain ⟨x1, x2, x3⟩ := x
  dsimp only at hbx ⊢
  have cr := blk_cell hr 0
  have fn0 := blk_frozen hn 0
  have cn0 := blk_cell hn 0
  have cx0 := blk_cell hbx 0
  have cx1 := blk_cell hbx 1
  have cx2 := blk_cell hbx 2
  have cx3 := blk_cell hbx 3
  refine wpIn_mono (Q := SizePost W1.heap.size (w.heap.size + 1) l w.heap.size (fun V2 => (Below w.heap.size w V2 ∧ W1.heap.size ≤ V2.heap.size) ∧ V2.heap[w.heap.size]? = some (.cells #[.int .i64 3] 155 (0, 0)) ∧ V2.heap[w.heap.size + 1]? = some (.cells #[.int .i64 x3] 3 (0, 0))) V) ?walk (fun e _ V2 h => h)
  gi_wp2
  refine ⟨rfl, (KeepsOthers.setCell _ _ _).from _, ⟨(Below.refl _ _).setCell (p := ⟨w.heap.size + 1, 0, none⟩) (Nat.le_succ _) _, KeepsWalks.setCell _ _ _, fun k o hk _ h => (Below.heap_setCell _ _ _ k hk).trans h⟩, ⟨hB.setCell (p := ⟨w.heap.size + 1, 0, none⟩) (Nat.le_succ _) _, by simpa using hsv⟩, blk_far hr (p := ⟨w.heap.size + 1, 0, none⟩) (by simp) _, blk_set hn 0 _⟩
 case done =>
  rintro D zs V hD rfl ⟨⟨hB, hsv⟩, hr, hn⟩ hK
  have cn := blk_cell hn 0
  gi_wp2
  refine ⟨by simp, .inl ⟨_, _, rfl, run_takeDeferred hK, ?_⟩⟩
  exact ⟨_, results_tmp rfl _ _ _, rfl, hB.trans (belowK_b (w := w) (Nat.le_refl _) V D _ _ (by omega) hK rfl rfl)⟩

theorem rule_size.calls (A0 : Option Addr) (c0 : Nat) (l0 : List Int) (a1 : Int) (r : Int) (w : World) (hr0 : Kd.C (Kd.int .u8) w A0 l0.length l0) (hc0 : l0.length ≤ c0) (hL : LaidBad w) (h : rule_size.f l0 a1 = some r) :
  Calls Tryd.prog 111 #[.slice A0 l0.length c0, .int .i64 a1] w fun e w' => e = .returned (.int .i64 r) ∧ Below w.heap.size w w' := by
 unfold rule_size.f at h
 by_cases hl : l0.length ≤ 4398046511104
 ·rw [if_pos hl] at h
  by_cases h2 : a1 = 2
  ·rw [if_pos h2] at h
   subst h2
   cases h
   exact rule_size.walk2 A0 c0 l0 w hr0 hc0 hL hl
  ·rw [if_neg h2] at h
   by_cases h3 : a1 = 3
   ·rw [if_pos h3] at h
    subst h3
    cases h
    exact rule_size.walk3 A0 c0 l0 w hr0 hc0 hL hl
   ·rw [if_neg h3] at h
    cases h
 ·rw [if_neg hl] at h
  cases h

end Go.Proofs.YtijbkiajhicooabDoor.PW

namespace Go.Proofs.YtijbkiajhicooabDoor.PW
open Go.RowKit Go.Proofs.YtijbkiajhicooabDoorW.PrintWords Go.Proofs.YtijbkiajhicooabDoorW.PrintLast Go.Proofs.YtijbkiajhicooabDoorW.PrintMore
attribute [local go_sem] max2_int min2_int max_two min_two max_three min_three max_four min_four   -- for this text's walks alone
set_option linter.unusedVariables false
set_option linter.unusedSimpArgs false

def rule_Size.f (l0 : List Int) (a1 : Int) : Option (Int × Int) := (rule_ruler.f a1).bind fun t152 => (if t152 = true then ((rule_size.f l0 a1).bind fun t153 => (some (t153, 0))) else (some (0, 3)))
set_option maxHeartbeats 8000000 in
set_option maxRecDepth 100000 in
theorem rule_Size.calls (A0 : Option Addr) (c0 : Nat) (l0 : List Int) (a1 : Int) (r1 : Int) (r2 : Int) (w : World) (hr0 : Kd.C (Kd.int .u8) w A0 l0.length l0) (hc0 : l0.length ≤ c0) (hL : LaidBad w) (h : rule_Size.f l0 a1 = some (r1, r2)) :
  Calls Tryd.prog 102 #[.slice A0 l0.length c0, .int .i64 a1] w fun e w' => e = .returned (.tuple #[.int .i64 r1, .int .i64 r2]) ∧ Below w.heap.size w w' := by
 have HR0 := Aside0.mk hr0
 have HC0 := Aside0.mk hc0
 clear hr0 hc0
 have HB := Aside0.mk (Below.refl w.heap.size w)
 have HLB := Aside0.mk hL
 clear hL
 have H : ((rule_ruler.f a1).bind fun t152 => (if t152 = true then ((rule_size.f l0 a1).bind fun t153 => (some (t153, 0))) else (some (0, 3)))) = some (r1, r2) := h
 clear h
 replace H := Option.bind_eq_some_iff.mp H
 obtain ⟨t152, A30, H⟩ := H
 replace H : (if t152 = true then ((rule_size.f l0 a1).bind fun t153 => (some (t153, 0))) else (some (0, 3))) = some (r1, r2) := H
 have A3 := Aside0.mk A30
 clear A30
 by_cases c4 : t152 = true
 ·subst c4
  have H1 : ((rule_size.f l0 a1).bind fun t153 => (some (t153, 0))) = some (r1, r2) := by rw [if_pos rfl] at H; exact H
  clear H
  have H := H1
  clear H1
  replace H := Option.bind_eq_some_iff.mp H
  obtain ⟨t153, A50, H⟩ := H
  replace H : (some (t153, 0)) = some (r1, r2) := H
  have A5 := Aside0.mk A50
  clear A50
  simp only [Option.some.injEq, Prod.mk.injEq] at H
  obtain ⟨rfl, rfl⟩ := H
  go_enter Tryd.func102, Tryd.ntmps102
  go_wp2_with (first | ((with_reducible refine gate_callee (f := 110) rfl ?_); refine goesL_ (some 7) rfl rfl Tryd.func110 (by kernel_rfl) rfl #[.int .i64 a1] rfl (by (try simp only [List.map_toArray, List.map_cons, List.map_nil]); first | done | rfl | (simp only [List.length_drop, List.length_take]; rfl)) ?_; (with_reducible refine (rule_ruler.calls a1 true _ A3.out).mono ?_); rintro e w' ⟨rfl, ⟨nd, rfl⟩⟩; refine ⟨_, rfl, ?_⟩) | ((with_reducible refine gate_callee (f := 111) rfl ?_); refine goesL_ (some 11) rfl rfl Tryd.func111 (by kernel_rfl) rfl #[.slice A0 l0.length c0, .int .i64 a1] rfl (by (try simp only [List.map_toArray, List.map_cons, List.map_nil]); first | done | rfl | (simp only [List.length_drop, List.length_take]; rfl)) ?_; (with_reducible refine (rule_size.calls _ _ l0 a1 t153 _ ?side1 ?side2 ?side3 A5.out).mono ?_); (case side1 => repeat (first | exact HR0.out | (with_reducible refine Kd.C_alloc ?_ _) | (with_reducible refine Kd.C_drewN ?_ _) | (with_reducible refine Kd.C_drew ?_))); (case side2 => exact HC0.out); (case side3 => exact laid_below HLB.out (by repeat (first | (with_reducible first | exact HB.out | apply below_alloc | apply pw_below_drewN | apply below_drew1) | exact HB.out))); rintro e w6 ⟨rfl, hb⟩; refine ⟨_, rfl, ?_⟩; have n0_ := Aside0.mk (below_step (by repeat (first | (with_reducible first | exact HB.out | apply below_alloc | apply pw_below_drewN | apply below_drew1) | exact HB.out)) hb); clear HB; have HB := n0_; clear n0_; (try clear hb); (try clear hb2); (try clear hk); (try clear hi)))
  go_ret2
  exact ⟨by first | rfl | (simp [errW_none, errW_some] <;> rfl) | (simp [*, errW_none, errW_some] <;> rfl), by repeat (first | (with_reducible first | exact HB.out | apply below_alloc | apply pw_below_drewN | apply below_drew1) | exact HB.out)⟩
 ·replace c4 := Bool.eq_false_iff.mpr c4
  subst c4
  have H1 : (some (0, 3)) = some (r1, r2) := by rw [if_neg (show ¬ (false = true) by decide)] at H; exact H
  clear H
  have H := H1
  clear H1
  simp only [Option.some.injEq, Prod.mk.injEq] at H
  obtain ⟨rfl, rfl⟩ := H
  go_enter Tryd.func102, Tryd.ntmps102
  go_wp2_with (first | ((with_reducible refine gate_callee (f := 110) rfl ?_); refine goesL_ (some 7) rfl rfl Tryd.func110 (by kernel_rfl) rfl #[.int .i64 a1] rfl (by (try simp only [List.map_toArray, List.map_cons, List.map_nil]); first | done | rfl | (simp only [List.length_drop, List.length_take]; rfl)) ?_; (with_reducible refine (rule_ruler.calls a1 false _ A3.out).mono ?_); rintro e w' ⟨rfl, ⟨nd, rfl⟩⟩; refine ⟨_, rfl, ?_⟩))
  go_ret2
  exact ⟨by first | rfl | (simp [errW_none, errW_some] <;> rfl) | (simp [*, errW_none, errW_some] <;> rfl), by repeat (first | (with_reducible first | exact HB.out | apply below_alloc | apply pw_below_drewN | apply below_drew1) | exact HB.out)⟩

end Go.Proofs.YtijbkiajhicooabDoor.PW

namespace Go.Proofs.YtijbkiajhicooabDoor.PW
open Go.RowKit Go.Proofs.YtijbkiajhicooabDoorW.PrintWords Go.Proofs.YtijbkiajhicooabDoorW.PrintLast Go.Proofs.YtijbkiajhicooabDoorW.PrintMore
attribute [local go_sem] max2_int min2_int max_two min_two max_three min_three max_four min_four   -- for this text's walks alone
set_option linter.unusedVariables false
set_option linter.unusedSimpArgs false

def lines_size.f (l0 : List Int) (a1 : Int) : Option (Int) := (rule_Size.f l0 a1).bind fun bt154 => (some bt154.1)
set_option maxHeartbeats 8000000 in
set_option maxRecDepth 100000 in
theorem lines_size.calls (A0 : Option Addr) (c0 : Nat) (l0 : List Int) (a1 : Int) (r : Int) (w : World) (hr0 : Kd.C (Kd.int .u8) w A0 l0.length l0) (hc0 : l0.length ≤ c0) (hL : LaidBad w) (h : lines_size.f l0 a1 = some r) :
  Calls Tryd.prog 87 #[.slice A0 l0.length c0, .int .i64 a1] w fun e w' => e = .returned (.int .i64 r) ∧ Below w.heap.size w w' := by
 have HR0 := Aside0.mk hr0
 have HC0 := Aside0.mk hc0
 clear hr0 hc0
 have HB := Aside0.mk (Below.refl w.heap.size w)
 have HLB := Aside0.mk hL
 clear hL
 have H : ((rule_Size.f l0 a1).bind fun bt154 => (some bt154.1)) = some r := h
 clear h
 replace H := Option.bind_eq_some_iff.mp H
 obtain ⟨⟨t154, t155⟩, A30, H⟩ := H
 replace H : (some t154) = some r := H
 have A3 := Aside0.mk A30
 clear A30
 obtain rfl := Option.some.inj H
 go_enter Tryd.func87, Tryd.ntmps87
 go_wp2_with (first | ((with_reducible refine gate_callee (f := 102) rfl ?_); refine goesL_ (some 10) rfl rfl Tryd.func102 (by kernel_rfl) rfl #[.slice A0 l0.length c0, .int .i64 a1] rfl (by (try simp only [List.map_toArray, List.map_cons, List.map_nil]); first | done | rfl | (simp only [List.length_drop, List.length_take]; rfl)) ?_; (with_reducible refine (rule_Size.calls _ _ l0 a1 t154 t155 _ ?side1 ?side2 ?side3 A3.out).mono ?_); (case side1 => repeat (first | exact HR0.out | (with_reducible refine Kd.C_alloc ?_ _) | (with_reducible refine Kd.C_drewN ?_ _) | (with_reducible refine Kd.C_drew ?_))); (case side2 => exact HC0.out); (case side3 => exact laid_below HLB.out (by repeat (first | (with_reducible first | exact HB.out | apply below_alloc | apply pw_below_drewN | apply below_drew1) | exact HB.out))); rintro e w4 ⟨rfl, hb⟩; refine ⟨_, rfl, ?_⟩; have n0_ := Aside0.mk (below_step (by repeat (first | (with_reducible first | exact HB.out | apply below_alloc | apply pw_below_drewN | apply below_drew1) | exact HB.out)) hb); clear HB; have HB := n0_; clear n0_; (try clear hb); (try clear hb2); (try clear hk); (try clear hi)))
 go_ret
 exact ⟨by first | rfl | (simp [errW_none, errW_some] <;> rfl) | (simp [*, errW_none, errW_some] <;> rfl), by repeat (first | (with_reducible first | exact HB.out | apply below_alloc | apply pw_below_drewN | apply below_drew1) | exact HB.out)⟩

end Go.Proofs.YtijbkiajhicooabDoor.PW

namespace Go.Proofs.YtijbkiajhicooabDoor.PW
open Go.RowKit Go.Proofs.YtijbkiajhicooabDoorW.PrintWords Go.Proofs.YtijbkiajhicooabDoorW.PrintLast Go.Proofs.YtijbkiajhicooabDoorW.PrintMore
attribute [local go_sem] max2_int min2_int max_two min_two max_three min_three max_four min_four   -- for this text's walks alone
set_option linter.unusedVariables false
set_option linter.unusedSimpArgs false

def lines_Where.f (k : Nat) (l0 : List Int) (a1 : Int) : Option (Int × Int × Int × Int × Int × Int × Int × Int) := (step_Floor.f k l0 a1).bind fun bt157 => (if bt157.2 = 0 then ((lines_all.f l0).bind fun t159 => ((lines_holds.f k t159 bt157.1).bind fun t162 => (if 0 ≤ bt157.1 then (if bt157.1 ≤ (l0.length : Int) then (if 0 ≤ t162 then (if t162 < (t159.length : Int) then (if 0 ≤ ((rd_T153 t159 t162).f0) then (if ((rd_T153 t159 t162).f0) ≤ bt157.1 then ((lines_size.f (l0.take (bt157.1 : Int).toNat) 2).bind fun t166 => ((lines_size.f (l0.take (bt157.1 : Int).toNat) 3).bind fun t167 => ((lines_size.f ((l0.take (bt157.1 : Int).toNat).drop (((rd_T153 t159 t162).f0) : Int).toNat) 2).bind fun t168 => ((lines_size.f ((l0.take (bt157.1 : Int).toNat).drop (((rd_T153 t159 t162).f0) : Int).toNat) 3).bind fun t169 => (some (bt157.1, t166, t167, t162, (((l0.take (bt157.1 : Int).toNat).drop (((rd_T153 t159 t162).f0) : Int).toNat).length : Int), t168, t169, 0)))))) else (none)) else (none)) else (none)) else (none)) else (none)) else (none)))) else (some (0, 0, 0, 0, 0, 0, 0, bt157.2)))
set_option maxHeartbeats 8000000 in
set_option maxRecDepth 100000 in
theorem lines_Where.calls (k : Nat) (A0 : Option Addr) (c0 : Nat) (l0 : List Int) (a1 : Int) (r1 : Int) (r2 : Int) (r3 : Int) (r4 : Int) (r5 : Int) (r6 : Int) (r7 : Int) (r8 : Int) (w : World) (hr0 : Kd.C (Kd.int .u8) w A0 l0.length l0) (hc0 : l0.length ≤ c0) (hL : LaidBad w) (h : lines_Where.f k l0 a1 = some (r1, r2, r3, r4, r5, r6, r7, r8)) :
  Calls Tryd.prog 55 #[.slice A0 l0.length c0, .int .i64 a1] w fun e w' => e = .returned (.tuple #[.agg #[.int .i64 r1, .int .i64 r2, .int .i64 r3, .int .i64 r4, .int .i64 r5, .int .i64 r6, .int .i64 r7], .int .i64 r8]) ∧ Below w.heap.size w w' := by
 have HR := Aside0.mk hr0
 have HC := Aside0.mk hc0
 have HLW := Aside0.mk hL
 unfold lines_Where.f at h
 obtain ⟨⟨p, e⟩, hfl, h⟩ := Option.bind_eq_some_iff.mp h
 dsimp only at h
 have hu := Tryd.underlying114
 have hu2 := Tryd.underlying153
 have hb1 : Below w.heap.size w (w.alloc (.cells #[.int .i64 0, .int .i64 0, .int .i64 0, .int .i64 0, .int .i64 0, .int .i64 0, .int .i64 0] 114)) := below_alloc (Below.refl _ _) _
 have hL1 := laid_below hL hb1
 have hg1 := blk_new w (.cells #[.int .i64 0, .int .i64 0, .int .i64 0, .int .i64 0, .int .i64 0, .int .i64 0, .int .i64 0] 114)
 have hr1 := Kd.C_below hr0 hb1
 have HF := Aside0.mk hfl
 have HG := Aside0.mk hg1
 have HB := Aside0.mk hb1
 have HR1 := Aside0.mk hr1
 have HL := Aside0.mk hL1
 clear hr0 hc0 hfl hg1 hb1 hr1 hL hL1
 by_cases he : e = 0
 ·rw [if_pos he] at h
  subst he
  obtain ⟨ls, hall, h⟩ := Option.bind_eq_some_iff.mp h
  obtain ⟨kk, hholds, h⟩ := Option.bind_eq_some_iff.mp h
  by_cases g0 : 0 ≤ p
  ·rw [if_pos g0] at h
   by_cases g1 : p ≤ (l0.length : Int)
   ·rw [if_pos g1] at h
    by_cases g2 : 0 ≤ kk
    ·rw [if_pos g2] at h
     by_cases g3 : kk < (ls.length : Int)
     ·rw [if_pos g3] at h
      by_cases g4 : 0 ≤ (rd_T153 ls kk).f0
      ·rw [if_pos g4] at h
       by_cases g5 : (rd_T153 ls kk).f0 ≤ p
       ·rw [if_pos g5] at h
        obtain ⟨s1, hs1, h⟩ := Option.bind_eq_some_iff.mp h
        obtain ⟨s2, hs2, h⟩ := Option.bind_eq_some_iff.mp h
        obtain ⟨s3, hs3, h⟩ := Option.bind_eq_some_iff.mp h
        obtain ⟨s4, hs4, h⟩ := Option.bind_eq_some_iff.mp h
        simp only [Option.some.injEq, Prod.mk.injEq] at h
        obtain ⟨rfl, rfl, rfl, rfl, rfl, rfl, rfl, rfl⟩ := h
        obtain ⟨i0, hi0, _, hsz0, _⟩ := info_parts info5
        obtain ⟨hcutA, hA, hCA⟩ := print_take_of (P := Tryd.prog) (Value.int .u8) 0 22 5 .i64 Tryd.underlying22 hi0 hsz0 A0 c0 l0 p g0 g1 HC.out
        obtain ⟨A9, hcutB, hB, hCB⟩ := print_mid_of (P := Tryd.prog) (Value.int .u8) 0 22 5 .i64 .i64 Tryd.underlying22 hi0 hsz0 A0 c0 l0 (rd_T153 ls kk).f0 p g4 g5 g1 HC.out
        have HRA := Aside0.mk (Kd.C_of_reads (h1 := fun _ => rfl) (hA _ (Kd.reads_of_C HR.out)))
        have HRB := Aside0.mk (Kd.C_of_reads (h1 := fun _ => rfl) (hB _ (Kd.reads_of_C HR.out)))
        have HCA := Aside0.mk hCA
        have HCB := Aside0.mk hCB
        have S1 := Aside0.mk hs1
        have S2 := Aside0.mk hs2
        have S3 := Aside0.mk hs3
        have S4 := Aside0.mk hs4
        have HALL := Aside0.mk hall
        have HHO := Aside0.mk hholds
        have G2 := Aside0.mk g2
        have G3 := Aside0.mk g3
        clear hA hB hCA hCB hs1 hs2 hs3 hs4 hi0 hsz0 hall hholds
        generalize hta : l0.take p.toNat = la at *
        generalize htb : la.drop (rd_T153 ls kk).f0.toNat = lb at *
        clear hta htb
        replace g0 := eq_true g0
        replace g1 := eq_true g1
        replace g2 := eq_true g2
        replace g3 := eq_true g3
        replace g4 := eq_true g4
        replace g5 := eq_true g5
        go_enter Tryd.func55, Tryd.ntmps55
        go_wp2_with fail
        refine (step_Floor.calls k _ _ l0 a1 p 0 _ HR1.out HC.out HL.out HF.out).mono ?_
        rintro e w2 ⟨rfl, hb2⟩
        have HB2 := Aside0.mk (below_step HB.out hb2)
        have HR2 := Aside0.mk (Kd.C_below HR1.out hb2)
        have HG2 := Aside0.mk (blk_below HG.out hb2)
        clear hb2
        go_wp2_with fail
        refine (lines_all.calls _ _ l0 ls _ HR2.out HC.out HALL.out).mono ?_
        rintro e w3 ⟨vl, rfl, hv, hb3⟩
        have HB3 := Aside0.mk (below_step HB2.out hb3)
        have HG3 := Aside0.mk (blk_below HG2.out hb3)
        clear hb3
        obtain ⟨Al, cl, rfl⟩ := Kd.R_slice hv
        have HV := Aside0.mk hv
        clear hv
        go_wp2_with fail
        refine (lines_holds.calls k _ _ ls p kk _ (Kd.R_reads' HV.out).2.2 (Kd.R_reads' HV.out).2.1 HHO.out).mono ?_
        rintro e w4 ⟨rfl, hw4⟩
        obtain ⟨n4, rfl⟩ := hw4.out
        clear hw4
        obtain ⟨ad, hAd, e0, e1, e2, e3⟩ := at_T153 (Kd.R_reads' HV.out).2.2 kk G2.out G3.out
        cases hAd
        go_wp2
        go_quiet (fail)
        go_wp2_with fail
        refine (lines_size.calls _ _ la 2 s1 _ (Kd.C_below HRA.out (pw_below_drewN HB3.out _)) HCA.out (laid_below HLW.out (pw_below_drewN HB3.out _)) S1.out).mono ?_
        rintro e w5 ⟨rfl, hb5⟩
        have HB5 := Aside0.mk (below_step (pw_below_drewN HB3.out _) hb5)
        have HG5 := Aside0.mk (blk_below (blk_drewN HG3.out _) hb5)
        clear hb5
        go_wp2_with fail
        refine (lines_size.calls _ _ la 3 s2 _ (Kd.C_below HRA.out HB5.out) HCA.out (laid_below HLW.out HB5.out) S2.out).mono ?_
        rintro e w6 ⟨rfl, hb6⟩
        have HB6 := Aside0.mk (below_step HB5.out hb6)
        have HG6 := Aside0.mk (blk_below HG5.out hb6)
        clear hb6
        go_wp2_with fail
        refine (lines_size.calls _ _ lb 2 s3 _ (Kd.C_below HRB.out HB6.out) HCB.out (laid_below HLW.out HB6.out) S3.out).mono ?_
        rintro e w7 ⟨rfl, hb7⟩
        have HB7 := Aside0.mk (below_step HB6.out hb7)
        have HG7 := Aside0.mk (blk_below HG6.out hb7)
        clear hb7
        go_wp2_with fail
        refine (lines_size.calls _ _ lb 3 s4 _ (Kd.C_below HRB.out HB7.out) HCB.out (laid_below HLW.out HB7.out) S4.out).mono ?_
        rintro e w8 ⟨rfl, hb8⟩
        have HB8 := Aside0.mk (below_step HB7.out hb8)
        have HG8 := Aside0.mk (blk_below HG7.out hb8)
        clear hb8
        have cz0 := blk_cell HG8.out 0
        have fz0 := blk_frozen HG8.out 0
        have cz1 := blk_cell HG8.out 1
        have fz1 := blk_frozen HG8.out 1
        have cz2 := blk_cell HG8.out 2
        have fz2 := blk_frozen HG8.out 2
        have cz3 := blk_cell HG8.out 3
        have fz3 := blk_frozen HG8.out 3
        have cz4 := blk_cell HG8.out 4
        have fz4 := blk_frozen HG8.out 4
        have cz5 := blk_cell HG8.out 5
        have fz5 := blk_frozen HG8.out 5
        have cz6 := blk_cell HG8.out 6
        have fz6 := blk_frozen HG8.out 6
        go_wp2
        refine bodyPost_ret (results_ct rfl _ _ w.heap.size 114 #[.int .i64 p, .int .i64 s1, .int .i64 s2, .int .i64 kk, .int .i64 (lb.length : Int), .int .i64 s3, .int .i64 s4] (0, 0) _ rfl (blk_put7 _ _ _ _ _ _ _ HG8.out) Tryd.underlying114 rfl (by kernel_rfl)) rfl ?_
        exact ⟨rfl, below_put7 HB8.out (Nat.le_refl _) _ _ _ _ _ _ _⟩
       ·rw [if_neg g5] at h
        cases h
      ·rw [if_neg g4] at h
       cases h
     ·rw [if_neg g3] at h
      cases h
    ·rw [if_neg g2] at h
     cases h
   ·rw [if_neg g1] at h
    cases h
  ·rw [if_neg g0] at h
   cases h
 ·rw [if_neg he] at h
  simp only [Option.some.injEq, Prod.mk.injEq] at h
  obtain ⟨rfl, rfl, rfl, rfl, rfl, rfl, rfl, rfl⟩ := h
  have heb : (e != 0) = true := by simpa using he
  have heb2 : (e == 0) = false := by simpa using he
  clear he
  go_enter Tryd.func55, Tryd.ntmps55
  go_wp2_with fail
  refine (step_Floor.calls k _ _ l0 a1 p e _ HR1.out HC.out HL.out HF.out).mono ?_
  rintro e2 w2 ⟨rfl, hb2⟩
  have HG2 := Aside0.mk (blk_below HG.out hb2)
  have HB2 := Aside0.mk (below_step HB.out hb2)
  have cz0 := blk_cell HG2.out 0
  have fz0 := blk_frozen HG2.out 0
  have cz1 := blk_cell HG2.out 1
  have fz1 := blk_frozen HG2.out 1
  have cz2 := blk_cell HG2.out 2
  have fz2 := blk_frozen HG2.out 2
  have cz3 := blk_cell HG2.out 3
  have fz3 := blk_frozen HG2.out 3
  have cz4 := blk_cell HG2.out 4
  have fz4 := blk_frozen HG2.out 4
  have cz5 := blk_cell HG2.out 5
  have fz5 := blk_frozen HG2.out 5
  have cz6 := blk_cell HG2.out 6
  have fz6 := blk_frozen HG2.out 6
  clear hb2
  go_wp2
  refine bodyPost_ret (results_ct rfl _ _ w.heap.size 114 #[.int .i64 0, .int .i64 0, .int .i64 0, .int .i64 0, .int .i64 0, .int .i64 0, .int .i64 0] (0, 0) _ rfl (blk_put7 _ _ _ _ _ _ _ HG2.out) Tryd.underlying114 rfl (by kernel_rfl)) rfl ?_
  exact ⟨rfl, below_put7 HB2.out (Nat.le_refl _) _ _ _ _ _ _ _⟩

end Go.Proofs.YtijbkiajhicooabDoor.PW

