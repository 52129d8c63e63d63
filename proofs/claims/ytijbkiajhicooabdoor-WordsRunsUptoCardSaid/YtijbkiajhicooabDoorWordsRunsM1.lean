-- Written by merge.py, a program of this session's: Bulk PWx0 PWx1 PWx12 PWx11 PWx18 PWx19 PWx20 PWx13 PWx14 PWx15 PWx16
import Derived.Test.YtijbkiajhicooabDoorRows
import Derived.Test.YtijbkiajhicooabDoorProg
import Derived.Below
import Derived.Deep.Draws
import Derived.Deep.AppendLies
import Derived.Maps.AppendAt
import Derived.OwnWalk
import Derived.Laws.BytesArg
import Derived.Laws.MakeOwn
import Derived.Laws.OwnMore
import Derived.Deep.OwnRows
import Derived.Tactics
import Derived.Lib.ConvBytes
import Derived.Laws.Slices
import Derived.WalkKit
import Derived.KernelRfl
import Derived.RowKit3
import Derived.Deep.LoopGhost
import Derived.Deep.QuietTactic
import Derived.BigQuiet
import Derived.WideLaws
import Derived.Deep.DeepCutAuto
import Derived.Deep.CutBlock
import Derived.Deep.RegionHeld3
import Derived.Laws.Rows
import Derived.Lib.AppendStr
import Derived.ArgAppend
import Derived.Laws.IdiomCopy
import Derived.OrdersHeld
import Derived.Laws.BitsLemmas
import Derived.RowKit
import Derived.Test.YtijbkiajhicooabDoorWWords
import Derived.Test.YtijbkiajhicooabDoorWLast
import Derived.Test.YtijbkiajhicooabDoorWTab
import Derived.Test.YtijbkiajhicooabDoorWFour
import Derived.Test.YtijbkiajhicooabDoorWQPut
import Derived.Test.YtijbkiajhicooabDoorWApart
import Derived.Test.YtijbkiajhicooabDoorWArr
import Derived.Test.YtijbkiajhicooabDoorWZeros
import Derived.Test.YtijbkiajhicooabDoorWFoot
import Derived.Test.YtijbkiajhicooabDoorWKept
import Derived.Test.YtijbkiajhicooabDoorWShare
import Derived.Test.YtijbkiajhicooabDoorWN
import Derived.Test.YtijbkiajhicooabDoorWFootNe
import Derived.Test.YtijbkiajhicooabDoorWAt
import Derived.Test.YtijbkiajhicooabDoorWEqStruct
import Derived.Test.YtijbkiajhicooabDoorWRepsOne
import Derived.Test.YtijbkiajhicooabDoorWInv
import Derived.Test.YtijbkiajhicooabDoorWInvWords
import Derived.Test.YtijbkiajhicooabDoorWGuard
import Derived.Test.YtijbkiajhicooabDoorWNEv
import Derived.Test.YtijbkiajhicooabDoorWMore
import Derived.Lib.OthersKept
import Derived.LoopN
import Derived.Maps.OwnIn
import Derived.RangeFuncNested
import Derived.RangeFuncBound
import Derived.RangeFuncCalls
import Derived.RangeFuncLeaves
import Derived.Shelf.Abstract
import Derived.Shelf.RegionOpen
import Derived.OwnWalkIn
import Derived.TacticsInMore
import Derived.LoopNIn
import Derived.LoopIn
namespace Go.Proofs.YtijbkiajhicooabDoor.PW
theorem bulk_pos {H : Type} : ∀ d : DataW H, 1 ≤ Rows.uptoBulk d
 | .lit l => by cases l <;> simp [Rows.uptoBulk]
 | .nil => by simp [Rows.uptoBulk]
 | .ptr _ => by simp [Rows.uptoBulk]
 | .slice _ _ => by simp [Rows.uptoBulk]
 | .agg _ => by simp [Rows.uptoBulk]
 | .iface _ _ => by simp [Rows.uptoBulk]
 | .map _ => by simp [Rows.uptoBulk]
 | .held _ => by simp [Rows.uptoBulk]
theorem bulk_length {H : Type} : ∀ l : List (DataW H), l.length ≤ Rows.uptoBulkAll l
 | [] => Nat.zero_le _
 | d :: l => by
  have h1 := bulk_pos d
  have h2 := bulk_length l
  simp only [Rows.uptoBulkAll, List.length_cons]
  omega
theorem bulk_slice_le {H : Type} (xs ys : List (DataW H)) : xs.length + ys.length + 1 ≤ Rows.uptoBulk (.slice xs ys) := by
 have h1 := bulk_length xs
 have h2 := bulk_length ys
 simp only [Rows.uptoBulk]
 omega
end Go.Proofs.YtijbkiajhicooabDoor.PW

namespace Go.Proofs.YtijbkiajhicooabDoor.PW
open Go.RowKit Go.Proofs.YtijbkiajhicooabDoorW.PrintWords Go.Proofs.YtijbkiajhicooabDoorW.PrintLast Go.Proofs.YtijbkiajhicooabDoorW.PrintMore
attribute [local go_sem] max2_int min2_int max_two min_two max_three min_three max_four min_four   -- for this text's walks alone
set_option linter.unusedVariables false
set_option linter.unusedSimpArgs false



def errW : Option Int → Value
 | none => .nilIface
 | some c => .iface 0 (.int .i64 c)
theorem errW_none : errW none = .nilIface := rfl
theorem errW_some (c : Int) : errW (some c) = .iface 0 (.int .i64 c) := rfl

theorem info3 : (Tryd.prog.info? 3).map (fun i => (i.zero, i.size, i.bytes)) = some (some (.int .i64 0), 1, 8) := by kernel_rfl
theorem info5 : (Tryd.prog.info? 5).map (fun i => (i.zero, i.size, i.bytes)) = some (some (.int .u8 0), 1, 1) := by kernel_rfl
theorem info44 : (Tryd.prog.info? 44).map (fun i => (i.zero, i.size, i.bytes)) = some (some (.agg #[(.int .i64 0), (.int .i64 0)]), 2, 16) := by kernel_rfl
theorem info109 : (Tryd.prog.info? 109).map (fun i => (i.zero, i.size, i.bytes)) = some (some (.agg #[(.int .i64 0), (.int .i64 0), (.int .i64 0)]), 3, 24) := by kernel_rfl
theorem info153 : (Tryd.prog.info? 153).map (fun i => (i.zero, i.size, i.bytes)) = some (some (.agg #[(.int .i64 0), (.int .i64 0), (.int .i64 0), (.int .i64 0)]), 4, 32) := by kernel_rfl
-- the values' own types
structure S44 where
 f0 : Int
 f1 : Int
def z44 : S44 := ⟨(0 : Int), (0 : Int)⟩
def k44 : Kd S44 := Kd.iso (Kd.pair (Kd.int .i64) (Kd.int .i64)) (fun x : S44 => (x.f0, x.f1))
theorem k44_open {w : World} {x : S44} {cs : List Value} (h : k44.K w x cs) : cs = [.int .i64 x.f0, .int .i64 x.f1] := by
 obtain ⟨_, _, rfl, rfl, rfl⟩ := h
 exact rfl
theorem k44_mkM (w : World) (base : Nat) (ok : Nat → Prop) (x : S44)  : k44.M w base ok x [.int .i64 x.f0, .int .i64 x.f1] := ⟨[.int .i64 x.f0], [.int .i64 x.f1], rfl, rfl, rfl⟩
def rd_T44 (xs : List S44) (i : Int) : S44 := xs.getD i.toNat z44
theorem at_T44 {w : World} {A : Option Addr} {n : Nat} {xs : List S44} (h : Kd.C k44 w A n xs) (i : Int) (h0 : 0 ≤ i) (h1 : i < n) : ∃ ad , A = some ad ∧ w.cell? (ad.add (i.toNat * 2)) = some (.int .i64 (rd_T44 xs i).f0) ∧ w.cell? ⟨(ad.add (i.toNat * 2)).block, (ad.add (i.toNat * 2)).off + 1, none⟩ = some (.int .i64 (rd_T44 xs i).f1) := by
 obtain ⟨ad, c, e, _, hK, hc0⟩ := Kd.C_get h z44 i h0 h1
 have hc : ∀ j u, c[j]? = some u → w.cell? (ad.add (i.toNat * 2 + j)) = some u := hc0
 obtain rfl := k44_open hK
 exact ⟨ad, e, hc 0 _ rfl, by rw [← add_field _ _ 1 (by omega)]; exact hc 1 _ rfl⟩

structure S109 where
 f0 : S44
 f1 : Int
def z109 : S109 := ⟨z44, (0 : Int)⟩
def k109 : Kd S109 := Kd.iso (Kd.pair k44 (Kd.int .i64)) (fun x : S109 => (x.f0, x.f1))
theorem k109_open {w : World} {x : S109} {cs : List Value} (h : k109.K w x cs) : cs = [.int .i64 x.f0.f0, .int .i64 x.f0.f1, .int .i64 x.f1] := by
 obtain ⟨_, _, rfl, s0, rfl⟩ := h
 obtain rfl := k44_open s0
 exact rfl
theorem k109_mkM (w : World) (base : Nat) (ok : Nat → Prop) (x : S109)  : k109.M w base ok x [.int .i64 x.f0.f0, .int .i64 x.f0.f1, .int .i64 x.f1] := ⟨[.int .i64 x.f0.f0, .int .i64 x.f0.f1], [.int .i64 x.f1], rfl, (k44_mkM w base ok x.f0 ), rfl⟩
def rd_T109 (xs : List S109) (i : Int) : S109 := xs.getD i.toNat z109
theorem at_T109 {w : World} {A : Option Addr} {n : Nat} {xs : List S109} (h : Kd.C k109 w A n xs) (i : Int) (h0 : 0 ≤ i) (h1 : i < n) : ∃ ad , A = some ad ∧ w.cell? (ad.add (i.toNat * 3)) = some (.int .i64 (rd_T109 xs i).f0.f0) ∧ w.cell? ⟨(ad.add (i.toNat * 3)).block, (ad.add (i.toNat * 3)).off + 1, none⟩ = some (.int .i64 (rd_T109 xs i).f0.f1) ∧ w.cell? ⟨(ad.add (i.toNat * 3)).block, (ad.add (i.toNat * 3)).off + 2, none⟩ = some (.int .i64 (rd_T109 xs i).f1) := by
 obtain ⟨ad, c, e, _, hK, hc0⟩ := Kd.C_get h z109 i h0 h1
 have hc : ∀ j u, c[j]? = some u → w.cell? (ad.add (i.toNat * 3 + j)) = some u := hc0
 obtain rfl := k109_open hK
 exact ⟨ad, e, hc 0 _ rfl, by rw [← add_field _ _ 1 (by omega)]; exact hc 1 _ rfl, by rw [← add_field _ _ 2 (by omega)]; exact hc 2 _ rfl⟩

structure S153 where
 f0 : Int
 f1 : Int
 f2 : Int
 f3 : Int
def z153 : S153 := ⟨(0 : Int), (0 : Int), (0 : Int), (0 : Int)⟩
def k153 : Kd S153 := Kd.iso (Kd.pair (Kd.int .i64) (Kd.pair (Kd.int .i64) (Kd.pair (Kd.int .i64) (Kd.int .i64)))) (fun x : S153 => (x.f0, x.f1, x.f2, x.f3))
theorem k153_open {w : World} {x : S153} {cs : List Value} (h : k153.K w x cs) : cs = [.int .i64 x.f0, .int .i64 x.f1, .int .i64 x.f2, .int .i64 x.f3] := by
 obtain ⟨_, _, rfl, rfl, ⟨_, _, rfl, rfl, ⟨_, _, rfl, rfl, rfl⟩⟩⟩ := h
 exact rfl
theorem k153_mkM (w : World) (base : Nat) (ok : Nat → Prop) (x : S153)  : k153.M w base ok x [.int .i64 x.f0, .int .i64 x.f1, .int .i64 x.f2, .int .i64 x.f3] := ⟨[.int .i64 x.f0], [.int .i64 x.f1, .int .i64 x.f2, .int .i64 x.f3], rfl, rfl, ⟨[.int .i64 x.f1], [.int .i64 x.f2, .int .i64 x.f3], rfl, rfl, ⟨[.int .i64 x.f2], [.int .i64 x.f3], rfl, rfl, rfl⟩⟩⟩
def rd_T153 (xs : List S153) (i : Int) : S153 := xs.getD i.toNat z153
theorem at_T153 {w : World} {A : Option Addr} {n : Nat} {xs : List S153} (h : Kd.C k153 w A n xs) (i : Int) (h0 : 0 ≤ i) (h1 : i < n) : ∃ ad , A = some ad ∧ w.cell? (ad.add (i.toNat * 4)) = some (.int .i64 (rd_T153 xs i).f0) ∧ w.cell? ⟨(ad.add (i.toNat * 4)).block, (ad.add (i.toNat * 4)).off + 1, none⟩ = some (.int .i64 (rd_T153 xs i).f1) ∧ w.cell? ⟨(ad.add (i.toNat * 4)).block, (ad.add (i.toNat * 4)).off + 2, none⟩ = some (.int .i64 (rd_T153 xs i).f2) ∧ w.cell? ⟨(ad.add (i.toNat * 4)).block, (ad.add (i.toNat * 4)).off + 3, none⟩ = some (.int .i64 (rd_T153 xs i).f3) := by
 obtain ⟨ad, c, e, _, hK, hc0⟩ := Kd.C_get h z153 i h0 h1
 have hc : ∀ j u, c[j]? = some u → w.cell? (ad.add (i.toNat * 4 + j)) = some u := hc0
 obtain rfl := k153_open hK
 exact ⟨ad, e, hc 0 _ rfl, by rw [← add_field _ _ 1 (by omega)]; exact hc 1 _ rfl, by rw [← add_field _ _ 2 (by omega)]; exact hc 2 _ rfl, by rw [← add_field _ _ 3 (by omega)]; exact hc 3 _ rfl⟩

end Go.Proofs.YtijbkiajhicooabDoor.PW

namespace Go.Proofs.YtijbkiajhicooabDoor.PW
open Go.RowKit Go.Proofs.YtijbkiajhicooabDoorW.PrintWords Go.Proofs.YtijbkiajhicooabDoorW.PrintLast Go.Proofs.YtijbkiajhicooabDoorW.PrintMore
attribute [local go_sem] max2_int min2_int max_two min_two max_three min_three max_four min_four   -- for this text's walks alone
set_option linter.unusedVariables false
set_option linter.unusedSimpArgs false

theorem eqA44 (d : Nat) (w : World) (x0 y0 : Int) (x1 y1 : Int) :
  (Op.equalIn (d + 2) 44 (.agg #[.int .i64 x0, .int .i64 x1]) (.agg #[.int .i64 y0, .int .i64 y1])).run Tryd.prog w = .ok (x0 == y0 && (x1 == y1)) w := by
 refine eqA_of Tryd.underlying44 (by kernel_rfl) ?_
 refine eqf_cons (by rfl) (by go_simp; rfl) (by go_simp; rfl) (by go_simp) ?_
 exact eqf_last (by rfl) (by go_simp; rfl) (by go_simp; rfl) (by go_simp)
end Go.Proofs.YtijbkiajhicooabDoor.PW

namespace Go.Proofs.YtijbkiajhicooabDoor.PW
open Go.RowKit Go.Proofs.YtijbkiajhicooabDoorW.PrintWords Go.Proofs.YtijbkiajhicooabDoorW.PrintLast Go.Proofs.YtijbkiajhicooabDoorW.PrintMore
attribute [local go_sem] max2_int min2_int max_two min_two max_three min_three max_four min_four   -- for this text's walks alone
set_option linter.unusedVariables false
set_option linter.unusedSimpArgs false

mutual
def words_Kind.j0 : Nat → Int → Bool → Option (Int)
 | 0, _, _ => none
 | k + 1, x3, x16 => if x16 = true then (some 2) else (if x3 ≥ 48 then (if x3 ≤ 57 then (words_Kind.j1 k x3 true) else (words_Kind.j1 k x3 (x3 == 95))) else (words_Kind.j1 k x3 (x3 == 95)))
def words_Kind.j1 : Nat → Int → Bool → Option (Int)
 | 0, _, _ => none
 | k + 1, x3, x23 => if x23 = true then (some 3) else (if x3 ≥ 65 then (if x3 ≤ 90 then (words_Kind.j2 k x3 true) else (if x3 ≥ 97 then (words_Kind.j2 k x3 (decide (x3 ≤ 122))) else (words_Kind.j2 k x3 false))) else (if x3 ≥ 97 then (words_Kind.j2 k x3 (decide (x3 ≤ 122))) else (words_Kind.j2 k x3 false)))
def words_Kind.j2 : Nat → Int → Bool → Option (Int)
 | 0, _, _ => none
 | k + 1, x3, x34 => if x34 = true then (some 3) else (if x3 ≥ 128 then (some 3) else (some 4))
end
def words_Kind.f (k : Nat) (a0_0 : Int) (a0_1 : Int) (a0_2 : Bool) : Option (Int) := if a0_2 = true then (if a0_0 = 32 then (some 1) else (if a0_0 = 9 then (some 1) else (if a0_0 = 10 then (words_Kind.j0 k a0_0 true) else (words_Kind.j0 k a0_0 (a0_0 == 13))))) else (some 5)
theorem words_Kind.mono_l : ∀ k, (∀ y0 y1, LeO (words_Kind.j0 k y0 y1) (words_Kind.j0 (k + 1) y0 y1)) ∧ (∀ y0 y1, LeO (words_Kind.j1 k y0 y1) (words_Kind.j1 (k + 1) y0 y1)) ∧ (∀ y0 y1, LeO (words_Kind.j2 k y0 y1) (words_Kind.j2 (k + 1) y0 y1))
 | 0 => ⟨fun _ _ r h => by simp [words_Kind.j0] at h, fun _ _ r h => by simp [words_Kind.j1] at h, fun _ _ r h => by simp [words_Kind.j2] at h⟩
 | k + 1 => by
  obtain ⟨ih0, ih1, ih2⟩ := words_Kind.mono_l k
  refine ⟨?_, ?_, ?_⟩
  ·intro y0 y1
   unfold words_Kind.j0
   repeat' first
   | (with_reducible exact ih0 _ _)
   | (with_reducible exact ih1 _ _)
   | (with_reducible exact ih2 _ _)
   | (with_reducible exact LeO.refl _)
   | (with_reducible exact LeO.none _)
   | (with_reducible refine LeO.ite ?_ ?_)
   | (with_reducible refine LeO.bind ?_ (fun _ => ?_))
   | exact ih0 _ _
   | exact ih1 _ _
   | exact ih2 _ _
   | exact LeO.none _
   | refine LeO.ite ?_ ?_
   | refine LeO.bind ?_ (fun _ => ?_)
  ·intro y0 y1
   unfold words_Kind.j1
   repeat' first
   | (with_reducible exact ih0 _ _)
   | (with_reducible exact ih1 _ _)
   | (with_reducible exact ih2 _ _)
   | (with_reducible exact LeO.refl _)
   | (with_reducible exact LeO.none _)
   | (with_reducible refine LeO.ite ?_ ?_)
   | (with_reducible refine LeO.bind ?_ (fun _ => ?_))
   | exact ih0 _ _
   | exact ih1 _ _
   | exact ih2 _ _
   | exact LeO.none _
   | refine LeO.ite ?_ ?_
   | refine LeO.bind ?_ (fun _ => ?_)
  ·intro y0 y1
   unfold words_Kind.j2
   repeat' first
   | (with_reducible exact ih0 _ _)
   | (with_reducible exact ih1 _ _)
   | (with_reducible exact ih2 _ _)
   | (with_reducible exact LeO.refl _)
   | (with_reducible exact LeO.none _)
   | (with_reducible refine LeO.ite ?_ ?_)
   | (with_reducible refine LeO.bind ?_ (fun _ => ?_))
   | exact ih0 _ _
   | exact ih1 _ _
   | exact ih2 _ _
   | exact LeO.none _
   | refine LeO.ite ?_ ?_
   | refine LeO.bind ?_ (fun _ => ?_)
theorem words_Kind.mono : ∀ a0 a1 a2 k, LeO (words_Kind.f k a0 a1 a2) (words_Kind.f (k + 1) a0 a1 a2) := by
 intro a0 a1 a2 k
 obtain ⟨ih0, ih1, ih2⟩ := words_Kind.mono_l k
 unfold words_Kind.f
 repeat' first
   | (with_reducible exact ih0 _ _)
   | (with_reducible exact ih1 _ _)
   | (with_reducible exact ih2 _ _)
   | (with_reducible exact LeO.refl _)
   | (with_reducible exact LeO.none _)
   | (with_reducible refine LeO.ite ?_ ?_)
   | (with_reducible refine LeO.bind ?_ (fun _ => ?_))
   | exact ih0 _ _
   | exact ih1 _ _
   | exact ih2 _ _
   | exact LeO.none _
   | refine LeO.ite ?_ ?_
   | refine LeO.bind ?_ (fun _ => ?_)
set_option maxHeartbeats 8000000 in
set_option maxRecDepth 100000 in
theorem words_Kind.calls (k : Nat) (a0_0 : Int) (a0_1 : Int) (a0_2 : Bool) (r : Int) (w : World) (h : words_Kind.f k a0_0 a0_1 a0_2 = some r) :
  Calls Tryd.prog 23 #[.agg #[.int .i32 a0_0, .int .i64 a0_1, .bool a0_2]] w fun e w' => e = .returned (.int .i64 r) ∧ Below w.heap.size w w' := by
 have hu50 := Tryd.underlying50
 have HB := Aside0.mk (Below.refl w.heap.size w)
 have H : (if a0_2 = true then (if a0_0 = 32 then (some 1) else (if a0_0 = 9 then (some 1) else (if a0_0 = 10 then (words_Kind.j0 k a0_0 true) else (words_Kind.j0 k a0_0 (a0_0 == 13))))) else (some 5)) = some r := h
 clear h
 by_cases c2 : a0_2 = true
 ·subst c2
  have H1 : (if a0_0 = 32 then (some 1) else (if a0_0 = 9 then (some 1) else (if a0_0 = 10 then (words_Kind.j0 k a0_0 true) else (words_Kind.j0 k a0_0 (a0_0 == 13))))) = some r := by rw [if_pos rfl] at H; exact H
  clear H
  have H := H1
  clear H1
  by_cases c3 : a0_0 = 32
  ·rw [if_pos c3] at H
   have c3b0 : (a0_0 == 32) = true := beq_iff_eq.mpr c3
   have c3b1 : (a0_0 != 32) = false := bne_eq_false_iff_eq.mpr c3
   clear c3
   obtain rfl := Option.some.inj H
   go_enter Tryd.func23, Tryd.ntmps23
   go_wp2_with (first | ((with_reducible refine gate_dst (N := 1) rfl ?_); refine box_event ?hg (N := 1) ?hd (cs := #[.int .i32 a0_0, .int .i64 a0_1, .bool true]) (t := 50) ?hr ?_; (case hd => rfl); (case hg => rfl); (case hr => first | (go_simp; done) | (go_simp; rfl)); intro gb122 hg w4 hbox hb; have n0_ := Aside0.mk (below_step (by repeat (first | (with_reducible first | exact HB.out | apply below_alloc | apply pw_below_drewN | apply below_drew1) | exact HB.out)) hb); have n1_ := Aside0.mk (hbox); have n2_ := Aside0.mk ((by rw [hg]; exact (below_size (by repeat (first | (with_reducible first | exact HB.out | apply below_alloc | apply pw_below_drewN | apply below_drew1) | exact HB.out))) : w.heap.size ≤ gb122)); have n3_ := Aside0.mk ((by rw [hg]; exact (below_size (by repeat (first | (with_reducible first | exact HB.out | apply below_alloc | apply pw_below_drewN | apply below_drew1) | exact HB.out))) : w.heap.size ≤ gb122)); clear HB; have HB := n0_; have BK122 := n1_; have GW122 := n2_; have GE122 := n3_; clear n0_ n1_ n2_ n3_; clear hb hbox hg; have hcz5_0 : w4.cell? ⟨gb122, 0, none⟩ = some (.int .i32 a0_0) := (blk_cell BK122.out 0).trans rfl; have hcz5_1 : w4.cell? ⟨gb122, 1, none⟩ = some (.int .i64 a0_1) := (blk_cell BK122.out 1).trans rfl; have hcz5_2 : w4.cell? ⟨gb122, 2, none⟩ = some (.bool true) := (blk_cell BK122.out 2).trans rfl; have hfz5_0 := blk_frozen BK122.out 0; have hfz5_1 := blk_frozen BK122.out 1; have hfz5_2 := blk_frozen BK122.out 2))
   go_ret
   exact ⟨by first | rfl | (simp [errW_none, errW_some] <;> rfl) | (simp [*, errW_none, errW_some] <;> rfl), by repeat (first | (with_reducible first | exact HB.out | apply below_alloc | apply pw_below_drewN | apply below_drew1 | refine below_set ?_ GE122.out) | exact HB.out)⟩
  ·rw [if_neg c3] at H
   have c3b0 : (a0_0 == 32) = false := beq_eq_false_iff_ne.mpr c3
   have c3b1 : (a0_0 != 32) = true := bne_iff_ne.mpr c3
   by_cases c6 : a0_0 = 9
   ·rw [if_pos c6] at H
    have c6b0 : (a0_0 == 9) = true := beq_iff_eq.mpr c6
    have c6b1 : (a0_0 != 9) = false := bne_eq_false_iff_eq.mpr c6
    clear c6
    obtain rfl := Option.some.inj H
    go_enter Tryd.func23, Tryd.ntmps23
    go_wp2_with (first | ((with_reducible refine gate_dst (N := 1) rfl ?_); refine box_event ?hg (N := 1) ?hd (cs := #[.int .i32 a0_0, .int .i64 a0_1, .bool true]) (t := 50) ?hr ?_; (case hd => rfl); (case hg => rfl); (case hr => first | (go_simp; done) | (go_simp; rfl)); intro gb122 hg w7 hbox hb; have n0_ := Aside0.mk (below_step (by repeat (first | (with_reducible first | exact HB.out | apply below_alloc | apply pw_below_drewN | apply below_drew1) | exact HB.out)) hb); have n1_ := Aside0.mk (hbox); have n2_ := Aside0.mk ((by rw [hg]; exact (below_size (by repeat (first | (with_reducible first | exact HB.out | apply below_alloc | apply pw_below_drewN | apply below_drew1) | exact HB.out))) : w.heap.size ≤ gb122)); have n3_ := Aside0.mk ((by rw [hg]; exact (below_size (by repeat (first | (with_reducible first | exact HB.out | apply below_alloc | apply pw_below_drewN | apply below_drew1) | exact HB.out))) : w.heap.size ≤ gb122)); clear HB; have HB := n0_; have BK122 := n1_; have GW122 := n2_; have GE122 := n3_; clear n0_ n1_ n2_ n3_; clear hb hbox hg; have hcz8_0 : w7.cell? ⟨gb122, 0, none⟩ = some (.int .i32 a0_0) := (blk_cell BK122.out 0).trans rfl; have hcz8_1 : w7.cell? ⟨gb122, 1, none⟩ = some (.int .i64 a0_1) := (blk_cell BK122.out 1).trans rfl; have hcz8_2 : w7.cell? ⟨gb122, 2, none⟩ = some (.bool true) := (blk_cell BK122.out 2).trans rfl; have hfz8_0 := blk_frozen BK122.out 0; have hfz8_1 := blk_frozen BK122.out 1; have hfz8_2 := blk_frozen BK122.out 2))
    go_ret
    exact ⟨by first | rfl | (simp [errW_none, errW_some] <;> rfl) | (simp [*, errW_none, errW_some] <;> rfl), by repeat (first | (with_reducible first | exact HB.out | apply below_alloc | apply pw_below_drewN | apply below_drew1 | refine below_set ?_ GE122.out) | exact HB.out)⟩
   ·rw [if_neg c6] at H
    have c6b0 : (a0_0 == 9) = false := beq_eq_false_iff_ne.mpr c6
    have c6b1 : (a0_0 != 9) = true := bne_iff_ne.mpr c6
    have HC9 := Aside0.mk H
    clear H
    go_enter Tryd.func23, Tryd.ntmps23
    go_upto_region 5 with (first | ((with_reducible refine gate_dst (N := 1) rfl ?_); refine box_event ?hg (N := 1) ?hd (cs := #[.int .i32 a0_0, .int .i64 a0_1, .bool true]) (t := 50) ?hr ?_; (case hd => rfl); (case hg => rfl); (case hr => first | (go_simp; done) | (go_simp; rfl)); intro gb122 hg w10 hbox hb; have n0_ := Aside0.mk (below_step (by repeat (first | (with_reducible first | exact HB.out | apply below_alloc | apply pw_below_drewN | apply below_drew1) | exact HB.out)) hb); have n1_ := Aside0.mk (hbox); have n2_ := Aside0.mk ((by rw [hg]; exact (below_size (by repeat (first | (with_reducible first | exact HB.out | apply below_alloc | apply pw_below_drewN | apply below_drew1) | exact HB.out))) : w.heap.size ≤ gb122)); have n3_ := Aside0.mk ((by rw [hg]; exact (below_size (by repeat (first | (with_reducible first | exact HB.out | apply below_alloc | apply pw_below_drewN | apply below_drew1) | exact HB.out))) : w.heap.size ≤ gb122)); clear HB; have HB := n0_; have BK122 := n1_; have GW122 := n2_; have GE122 := n3_; clear n0_ n1_ n2_ n3_; clear hb hbox hg; have hcz11_0 : w10.cell? ⟨gb122, 0, none⟩ = some (.int .i32 a0_0) := (blk_cell BK122.out 0).trans rfl; have hcz11_1 : w10.cell? ⟨gb122, 1, none⟩ = some (.int .i64 a0_1) := (blk_cell BK122.out 1).trans rfl; have hcz11_2 : w10.cell? ⟨gb122, 2, none⟩ = some (.bool true) := (blk_cell BK122.out 2).trans rfl; have hfz11_0 := blk_frozen BK122.out 0; have hfz11_1 := blk_frozen BK122.out 1; have hfz11_2 := blk_frozen BK122.out 2))
    (try simp only [Act.put, List.setIfInBounds_toArray, List.set_cons_zero, List.set_cons_succ])
    go_cut [16] (fun v16 wc => ∃ (kq : Nat) (x16_8 : Bool), v16 = .bool x16_8 ∧ Aside0 (words_Kind.j0 kq a0_0 x16_8 = some r) ∧ Aside0 (kq ≤ k) ∧ Aside0 (wc.heap[gb122]? = some (.cells #[.int .i32 a0_0, .int .i64 a0_1, .bool true] 50 (0, 0))) ∧ Aside0 (Below w.heap.size w wc))
    case first =>
     have H := HC9.out
     clear HC9
     by_cases c12 : a0_0 = 10
     ·rw [if_pos c12] at H
      have c12b0 : (a0_0 == 10) = true := beq_iff_eq.mpr c12
      have c12b1 : (a0_0 != 10) = false := bne_eq_false_iff_eq.mpr c12
      clear c12
      (first | rw [c12b0] | (simp only [i64_w, i32_w]; rw [c12b0]) | skip)
      have H' := Aside0.mk H
      clear H
      go_wp2
      go_meet
      case rel => exact ⟨_, (true), (by first | rfl | (simp; done) | (simp [*]; done)), H', ⟨by first | omega | exact Nat.le_refl _⟩, ⟨by (with_reducible repeat (first | refine blk_drewN ?_ _ | refine blk_drew ?_ | refine blk_alloc ?_ _)); exact BK122.out⟩, ⟨by repeat (first | (with_reducible first | exact HB.out | apply below_alloc | apply pw_below_drewN | apply below_drew1 | refine below_set ?_ GE122.out) | exact HB.out)⟩⟩
     ·rw [if_neg c12] at H
      have c12b0 : (a0_0 == 10) = false := beq_eq_false_iff_ne.mpr c12
      have c12b1 : (a0_0 != 10) = true := bne_iff_ne.mpr c12
      (first | rw [c12b0] | (simp only [i64_w, i32_w]; rw [c12b0]) | skip)
      have H' := Aside0.mk H
      clear H
      go_wp2
      go_meet
      case rel => exact ⟨_, ((a0_0 == 13)), (by first | rfl | (simp; done) | (simp [*]; done)), H', ⟨by first | omega | exact Nat.le_refl _⟩, ⟨by (with_reducible repeat (first | refine blk_drewN ?_ _ | refine blk_drew ?_ | refine blk_alloc ?_ _)); exact BK122.out⟩, ⟨by repeat (first | (with_reducible first | exact HB.out | apply below_alloc | apply pw_below_drewN | apply below_drew1 | refine below_set ?_ GE122.out) | exact HB.out)⟩⟩
    case rest =>
     clear HC9
     try clear c1
     try clear c2
     try clear p2
     try clear c3
     try clear c3b0
     try clear c3b1
     try clear c6
     try clear c6b0
     try clear c6b1
     try clear c12
     try clear c12b0
     try clear c12b1
     try clear hcz11_0
     try clear hcz11_1
     try clear hcz11_2
     try clear hcz5_0
     try clear hcz5_1
     try clear hcz5_2
     try clear hcz8_0
     try clear hcz8_1
     try clear hcz8_2
     try clear hfz11_0
     try clear hfz11_1
     try clear hfz11_2
     try clear hfz5_0
     try clear hfz5_1
     try clear hfz5_2
     try clear hfz8_0
     try clear hfz8_1
     try clear hfz8_2
     obtain ⟨kq, x16_8, rfl, HA, HJ8, BK122, HB⟩ := hcut
     cases kq with
     | zero => exact absurd HA.out (by simp [words_Kind.j0])
     | succ kj8 =>
      have H := HA.out
      clear HA
      simp only [words_Kind.j0] at H
      by_cases c13 : x16_8 = true
      ·subst c13
       have H1 : (some 2) = some r := by rw [if_pos rfl] at H; exact H
       clear H
       have H := H1
       clear H1
       obtain rfl := Option.some.inj H
       go_wp2
       go_ret
       exact ⟨by first | rfl | (simp [errW_none, errW_some] <;> rfl) | (simp [*, errW_none, errW_some] <;> rfl), by repeat (first | (with_reducible first | exact HB.out | apply below_alloc | apply pw_below_drewN | apply below_drew1 | refine below_set ?_ GE122.out) | exact HB.out)⟩
      ·replace c13 := Bool.eq_false_iff.mpr c13
       subst c13
       have H1 : (if a0_0 ≥ 48 then (if a0_0 ≤ 57 then (words_Kind.j1 kj8 a0_0 true) else (words_Kind.j1 kj8 a0_0 (a0_0 == 95))) else (words_Kind.j1 kj8 a0_0 (a0_0 == 95))) = some r := by rw [if_neg (show ¬ (false = true) by decide)] at H; exact H
       clear H
       have H := H1
       clear H1
       have HC14 := Aside0.mk H
       clear H
       go_upto_region 6 with (fail)
       go_cut [23] (fun v23 wc => ∃ (kq : Nat) (x23_13 : Bool), v23 = .bool x23_13 ∧ Aside0 (words_Kind.j1 kq a0_0 x23_13 = some r) ∧ Aside0 (kq ≤ kj8) ∧ Aside0 (wc.heap[gb122]? = some (.cells #[.int .i32 a0_0, .int .i64 a0_1, .bool true] 50 (0, 0))) ∧ Aside0 (Below w.heap.size w wc))
       case first =>
        have H := HC14.out
        clear HC14
        by_cases c15 : a0_0 ≥ 48
        ·rw [if_pos c15] at H
         have c15b0 : decide (48 ≤ a0_0) = true := decide_eq_true c15
         clear c15
         (first | rw [c15b0] | (simp only [i64_w, i32_w]; rw [c15b0]) | skip)
         by_cases c16 : a0_0 ≤ 57
         ·rw [if_pos c16] at H
          have c16b0 : decide (a0_0 ≤ 57) = true := decide_eq_true c16
          clear c16
          have H' := Aside0.mk H
          clear H
          go_wp2
          go_meet
          case rel => exact ⟨_, (true), (by first | rfl | (simp; done) | (simp [*]; done)), H', ⟨by have := HJ8.out; first | omega | exact Nat.le_refl _⟩, ⟨by (with_reducible repeat (first | refine blk_drewN ?_ _ | refine blk_drew ?_ | refine blk_alloc ?_ _)); exact BK122.out⟩, ⟨by repeat (first | (with_reducible first | exact HB.out | apply below_alloc | apply pw_below_drewN | apply below_drew1 | refine below_set ?_ GE122.out) | exact HB.out)⟩⟩
         ·rw [if_neg c16] at H
          have c16b0 : decide (a0_0 ≤ 57) = false := decide_eq_false c16
          clear c16
          have H' := Aside0.mk H
          clear H
          go_wp2
          go_meet
          case rel => exact ⟨_, ((a0_0 == 95)), (by first | rfl | (simp; done) | (simp [*]; done)), H', ⟨by have := HJ8.out; first | omega | exact Nat.le_refl _⟩, ⟨by (with_reducible repeat (first | refine blk_drewN ?_ _ | refine blk_drew ?_ | refine blk_alloc ?_ _)); exact BK122.out⟩, ⟨by repeat (first | (with_reducible first | exact HB.out | apply below_alloc | apply pw_below_drewN | apply below_drew1 | refine below_set ?_ GE122.out) | exact HB.out)⟩⟩
        ·rw [if_neg c15] at H
         have c15b0 : decide (48 ≤ a0_0) = false := decide_eq_false c15
         clear c15
         (first | rw [c15b0] | (simp only [i64_w, i32_w]; rw [c15b0]) | skip)
         have H' := Aside0.mk H
         clear H
         go_wp2
         go_meet
         case rel => exact ⟨_, ((a0_0 == 95)), (by first | rfl | (simp; done) | (simp [*]; done)), H', ⟨by have := HJ8.out; first | omega | exact Nat.le_refl _⟩, ⟨by (with_reducible repeat (first | refine blk_drewN ?_ _ | refine blk_drew ?_ | refine blk_alloc ?_ _)); exact BK122.out⟩, ⟨by repeat (first | (with_reducible first | exact HB.out | apply below_alloc | apply pw_below_drewN | apply below_drew1 | refine below_set ?_ GE122.out) | exact HB.out)⟩⟩
       case rest =>
        clear HC14
        try clear c1
        try clear c2
        try clear p2
        try clear c3
        try clear c3b0
        try clear c3b1
        try clear c6
        try clear c6b0
        try clear c6b1
        try clear c12
        try clear c12b0
        try clear c12b1
        try clear c13
        try clear c15
        try clear c15b0
        try clear c16
        try clear c16b0
        try clear hcz11_0
        try clear hcz11_1
        try clear hcz11_2
        try clear hcz5_0
        try clear hcz5_1
        try clear hcz5_2
        try clear hcz8_0
        try clear hcz8_1
        try clear hcz8_2
        try clear hfz11_0
        try clear hfz11_1
        try clear hfz11_2
        try clear hfz5_0
        try clear hfz5_1
        try clear hfz5_2
        try clear hfz8_0
        try clear hfz8_1
        try clear hfz8_2
        try clear p2
        obtain ⟨kq, x23_13, rfl, HA, HJ13, BK122, HB⟩ := hcut
        cases kq with
        | zero => exact absurd HA.out (by simp [words_Kind.j1])
        | succ kj13 =>
         have H := HA.out
         clear HA
         simp only [words_Kind.j1] at H
         by_cases c17 : x23_13 = true
         ·subst c17
          have H1 : (some 3) = some r := by rw [if_pos rfl] at H; exact H
          clear H
          have H := H1
          clear H1
          obtain rfl := Option.some.inj H
          go_wp2
          go_ret
          exact ⟨by first | rfl | (simp [errW_none, errW_some] <;> rfl) | (simp [*, errW_none, errW_some] <;> rfl), by repeat (first | (with_reducible first | exact HB.out | apply below_alloc | apply pw_below_drewN | apply below_drew1 | refine below_set ?_ GE122.out) | exact HB.out)⟩
         ·replace c17 := Bool.eq_false_iff.mpr c17
          subst c17
          have H1 : (if a0_0 ≥ 65 then (if a0_0 ≤ 90 then (words_Kind.j2 kj13 a0_0 true) else (if a0_0 ≥ 97 then (words_Kind.j2 kj13 a0_0 (decide (a0_0 ≤ 122))) else (words_Kind.j2 kj13 a0_0 false))) else (if a0_0 ≥ 97 then (words_Kind.j2 kj13 a0_0 (decide (a0_0 ≤ 122))) else (words_Kind.j2 kj13 a0_0 false))) = some r := by rw [if_neg (show ¬ (false = true) by decide)] at H; exact H
          clear H
          have H := H1
          clear H1
          have HC18 := Aside0.mk H
          clear H
          go_upto_region 7 with (fail)
          go_cut [34] (fun v34 wc => ∃ (kq : Nat) (x34_17 : Bool), v34 = .bool x34_17 ∧ Aside0 (words_Kind.j2 kq a0_0 x34_17 = some r) ∧ Aside0 (kq ≤ kj13) ∧ Aside0 (wc.heap[gb122]? = some (.cells #[.int .i32 a0_0, .int .i64 a0_1, .bool true] 50 (0, 0))) ∧ Aside0 (Below w.heap.size w wc))
          case first =>
           have H := HC18.out
           clear HC18
           by_cases c19 : a0_0 ≥ 65
           ·rw [if_pos c19] at H
            have c19b0 : decide (65 ≤ a0_0) = true := decide_eq_true c19
            clear c19
            (first | rw [c19b0] | (simp only [i64_w, i32_w]; rw [c19b0]) | skip)
            by_cases c20 : a0_0 ≤ 90
            ·rw [if_pos c20] at H
             have c20b0 : decide (a0_0 ≤ 90) = true := decide_eq_true c20
             clear c20
             have H' := Aside0.mk H
             clear H
             go_wp2
             go_meet
             case rel => exact ⟨_, (true), (by first | rfl | (simp; done) | (simp [*]; done)), H', ⟨by have := HJ8.out; have := HJ13.out; first | omega | exact Nat.le_refl _⟩, ⟨by (with_reducible repeat (first | refine blk_drewN ?_ _ | refine blk_drew ?_ | refine blk_alloc ?_ _)); exact BK122.out⟩, ⟨by repeat (first | (with_reducible first | exact HB.out | apply below_alloc | apply pw_below_drewN | apply below_drew1 | refine below_set ?_ GE122.out) | exact HB.out)⟩⟩
            ·rw [if_neg c20] at H
             have c20b0 : decide (a0_0 ≤ 90) = false := decide_eq_false c20
             clear c20
             by_cases c21 : a0_0 ≥ 97
             ·rw [if_pos c21] at H
              have c21b0 : decide (97 ≤ a0_0) = true := decide_eq_true c21
              clear c21
              have H' := Aside0.mk H
              clear H
              go_wp2
              go_meet
              case rel => exact ⟨_, (decide (a0_0 ≤ 122)), (by first | rfl | (simp; done) | (simp [*]; done)), H', ⟨by have := HJ8.out; have := HJ13.out; first | omega | exact Nat.le_refl _⟩, ⟨by (with_reducible repeat (first | refine blk_drewN ?_ _ | refine blk_drew ?_ | refine blk_alloc ?_ _)); exact BK122.out⟩, ⟨by repeat (first | (with_reducible first | exact HB.out | apply below_alloc | apply pw_below_drewN | apply below_drew1 | refine below_set ?_ GE122.out) | exact HB.out)⟩⟩
             ·rw [if_neg c21] at H
              have c21b0 : decide (97 ≤ a0_0) = false := decide_eq_false c21
              clear c21
              have H' := Aside0.mk H
              clear H
              go_wp2
              go_meet
              case rel => exact ⟨_, (false), (by first | rfl | (simp; done) | (simp [*]; done)), H', ⟨by have := HJ8.out; have := HJ13.out; first | omega | exact Nat.le_refl _⟩, ⟨by (with_reducible repeat (first | refine blk_drewN ?_ _ | refine blk_drew ?_ | refine blk_alloc ?_ _)); exact BK122.out⟩, ⟨by repeat (first | (with_reducible first | exact HB.out | apply below_alloc | apply pw_below_drewN | apply below_drew1 | refine below_set ?_ GE122.out) | exact HB.out)⟩⟩
           ·rw [if_neg c19] at H
            have c19b0 : decide (65 ≤ a0_0) = false := decide_eq_false c19
            clear c19
            (first | rw [c19b0] | (simp only [i64_w, i32_w]; rw [c19b0]) | skip)
            by_cases c22 : a0_0 ≥ 97
            ·rw [if_pos c22] at H
             have c22b0 : decide (97 ≤ a0_0) = true := decide_eq_true c22
             clear c22
             have H' := Aside0.mk H
             clear H
             go_wp2
             go_meet
             case rel => exact ⟨_, (decide (a0_0 ≤ 122)), (by first | rfl | (simp; done) | (simp [*]; done)), H', ⟨by have := HJ8.out; have := HJ13.out; first | omega | exact Nat.le_refl _⟩, ⟨by (with_reducible repeat (first | refine blk_drewN ?_ _ | refine blk_drew ?_ | refine blk_alloc ?_ _)); exact BK122.out⟩, ⟨by repeat (first | (with_reducible first | exact HB.out | apply below_alloc | apply pw_below_drewN | apply below_drew1 | refine below_set ?_ GE122.out) | exact HB.out)⟩⟩
            ·rw [if_neg c22] at H
             have c22b0 : decide (97 ≤ a0_0) = false := decide_eq_false c22
             clear c22
             have H' := Aside0.mk H
             clear H
             go_wp2
             go_meet
             case rel => exact ⟨_, (false), (by first | rfl | (simp; done) | (simp [*]; done)), H', ⟨by have := HJ8.out; have := HJ13.out; first | omega | exact Nat.le_refl _⟩, ⟨by (with_reducible repeat (first | refine blk_drewN ?_ _ | refine blk_drew ?_ | refine blk_alloc ?_ _)); exact BK122.out⟩, ⟨by repeat (first | (with_reducible first | exact HB.out | apply below_alloc | apply pw_below_drewN | apply below_drew1 | refine below_set ?_ GE122.out) | exact HB.out)⟩⟩
          case rest =>
           clear HC18
           try clear c1
           try clear c2
           try clear p2
           try clear c3
           try clear c3b0
           try clear c3b1
           try clear c6
           try clear c6b0
           try clear c6b1
           try clear c12
           try clear c12b0
           try clear c12b1
           try clear c13
           try clear c15
           try clear c15b0
           try clear c16
           try clear c16b0
           try clear c17
           try clear c19
           try clear c19b0
           try clear c20
           try clear c20b0
           try clear c21
           try clear c21b0
           try clear c22
           try clear c22b0
           try clear hcz11_0
           try clear hcz11_1
           try clear hcz11_2
           try clear hcz5_0
           try clear hcz5_1
           try clear hcz5_2
           try clear hcz8_0
           try clear hcz8_1
           try clear hcz8_2
           try clear hfz11_0
           try clear hfz11_1
           try clear hfz11_2
           try clear hfz5_0
           try clear hfz5_1
           try clear hfz5_2
           try clear hfz8_0
           try clear hfz8_1
           try clear hfz8_2
           try clear p2
           obtain ⟨kq, x34_17, rfl, HA, HJ17, BK122, HB⟩ := hcut
           cases kq with
           | zero => exact absurd HA.out (by simp [words_Kind.j2])
           | succ kj17 =>
            have H := HA.out
            clear HA
            simp only [words_Kind.j2] at H
            by_cases c23 : x34_17 = true
            ·subst c23
             have H1 : (some 3) = some r := by rw [if_pos rfl] at H; exact H
             clear H
             have H := H1
             clear H1
             obtain rfl := Option.some.inj H
             go_wp2
             go_ret
             exact ⟨by first | rfl | (simp [errW_none, errW_some] <;> rfl) | (simp [*, errW_none, errW_some] <;> rfl), by repeat (first | (with_reducible first | exact HB.out | apply below_alloc | apply pw_below_drewN | apply below_drew1 | refine below_set ?_ GE122.out) | exact HB.out)⟩
            ·replace c23 := Bool.eq_false_iff.mpr c23
             subst c23
             have H1 : (if a0_0 ≥ 128 then (some 3) else (some 4)) = some r := by rw [if_neg (show ¬ (false = true) by decide)] at H; exact H
             clear H
             have H := H1
             clear H1
             by_cases c24 : a0_0 ≥ 128
             ·rw [if_pos c24] at H
              have c24b0 : decide (128 ≤ a0_0) = true := decide_eq_true c24
              clear c24
              obtain rfl := Option.some.inj H
              go_wp2
              go_ret
              exact ⟨by first | rfl | (simp [errW_none, errW_some] <;> rfl) | (simp [*, errW_none, errW_some] <;> rfl), by repeat (first | (with_reducible first | exact HB.out | apply below_alloc | apply pw_below_drewN | apply below_drew1 | refine below_set ?_ GE122.out) | exact HB.out)⟩
             ·rw [if_neg c24] at H
              have c24b0 : decide (128 ≤ a0_0) = false := decide_eq_false c24
              clear c24
              obtain rfl := Option.some.inj H
              go_wp2
              go_ret
              exact ⟨by first | rfl | (simp [errW_none, errW_some] <;> rfl) | (simp [*, errW_none, errW_some] <;> rfl), by repeat (first | (with_reducible first | exact HB.out | apply below_alloc | apply pw_below_drewN | apply below_drew1 | refine below_set ?_ GE122.out) | exact HB.out)⟩
 ·replace c2 := Bool.eq_false_iff.mpr c2
  subst c2
  have H1 : (some 5) = some r := by rw [if_neg (show ¬ (false = true) by decide)] at H; exact H
  clear H
  have H := H1
  clear H1
  obtain rfl := Option.some.inj H
  go_enter Tryd.func23, Tryd.ntmps23
  go_wp2_with (first | ((with_reducible refine gate_dst (N := 1) rfl ?_); refine box_event ?hg (N := 1) ?hd (cs := #[.int .i32 a0_0, .int .i64 a0_1, .bool false]) (t := 50) ?hr ?_; (case hd => rfl); (case hg => rfl); (case hr => first | (go_simp; done) | (go_simp; rfl)); intro gb122 hg w25 hbox hb; have n0_ := Aside0.mk (below_step (by repeat (first | (with_reducible first | exact HB.out | apply below_alloc | apply pw_below_drewN | apply below_drew1) | exact HB.out)) hb); have n1_ := Aside0.mk (hbox); have n2_ := Aside0.mk ((by rw [hg]; exact (below_size (by repeat (first | (with_reducible first | exact HB.out | apply below_alloc | apply pw_below_drewN | apply below_drew1) | exact HB.out))) : w.heap.size ≤ gb122)); have n3_ := Aside0.mk ((by rw [hg]; exact (below_size (by repeat (first | (with_reducible first | exact HB.out | apply below_alloc | apply pw_below_drewN | apply below_drew1) | exact HB.out))) : w.heap.size ≤ gb122)); clear HB; have HB := n0_; have BK122 := n1_; have GW122 := n2_; have GE122 := n3_; clear n0_ n1_ n2_ n3_; clear hb hbox hg; have hcz26_0 : w25.cell? ⟨gb122, 0, none⟩ = some (.int .i32 a0_0) := (blk_cell BK122.out 0).trans rfl; have hcz26_1 : w25.cell? ⟨gb122, 1, none⟩ = some (.int .i64 a0_1) := (blk_cell BK122.out 1).trans rfl; have hcz26_2 : w25.cell? ⟨gb122, 2, none⟩ = some (.bool false) := (blk_cell BK122.out 2).trans rfl; have hfz26_0 := blk_frozen BK122.out 0; have hfz26_1 := blk_frozen BK122.out 1; have hfz26_2 := blk_frozen BK122.out 2))
  go_ret
  exact ⟨by first | rfl | (simp [errW_none, errW_some] <;> rfl) | (simp [*, errW_none, errW_some] <;> rfl), by repeat (first | (with_reducible first | exact HB.out | apply below_alloc | apply pw_below_drewN | apply below_drew1 | refine below_set ?_ GE122.out) | exact HB.out)⟩

end Go.Proofs.YtijbkiajhicooabDoor.PW

namespace Go.Proofs.YtijbkiajhicooabDoor.PW
open Go.RowKit Go.Proofs.YtijbkiajhicooabDoorW.PrintWords Go.Proofs.YtijbkiajhicooabDoorW.PrintLast Go.Proofs.YtijbkiajhicooabDoorW.PrintMore
attribute [local go_sem] max2_int min2_int max_two min_two max_three min_three max_four min_four   -- for this text's walks alone
set_option linter.unusedVariables false
set_option linter.unusedSimpArgs false

def words_outside.f (l0 : List Int) (a1 : Int) : Option (Bool) := if a1 < 0 then (some true) else (some (decide (a1 > (l0.length : Int))))
set_option maxHeartbeats 8000000 in
set_option maxRecDepth 100000 in
theorem words_outside.calls (A0 : Option Addr) (c0 : Nat) (l0 : List Int) (a1 : Int) (r : Bool) (w : World) (hr0 : Kd.C (Kd.int .u8) w A0 l0.length l0) (hc0 : l0.length ≤ c0) (h : words_outside.f l0 a1 = some r) :
  Calls Tryd.prog 51 #[.slice A0 l0.length c0, .int .i64 a1] w fun e w' => e = .returned (.bool r) ∧ Drawn0 w w' := by
 have HR0 := Aside0.mk hr0
 have HC0 := Aside0.mk hc0
 clear hr0 hc0
 have H : (if a1 < 0 then (some true) else (some (decide (a1 > (l0.length : Int))))) = some r := h
 clear h
 by_cases c3 : a1 < 0
 ·rw [if_pos c3] at H
  have c3b0 : decide (a1 < 0) = true := decide_eq_true c3
  clear c3
  obtain rfl := Option.some.inj H
  go_enter Tryd.func51, Tryd.ntmps51
  go_wp2
  go_ret
  exact ⟨by first | rfl | (simp; done) | (simp [*]; done), by repeat (first | exact Drawn0.refl _ | apply Drawn0.step)⟩
 ·rw [if_neg c3] at H
  have c3b0 : decide (a1 < 0) = false := decide_eq_false c3
  clear c3
  obtain rfl := Option.some.inj H
  go_enter Tryd.func51, Tryd.ntmps51
  go_wp2
  go_ret
  exact ⟨by first | rfl | (simp; done) | (simp [*]; done), by repeat (first | exact Drawn0.refl _ | apply Drawn0.step)⟩

end Go.Proofs.YtijbkiajhicooabDoor.PW

namespace Go.Proofs.YtijbkiajhicooabDoor.PW
open Go.RowKit Go.Proofs.YtijbkiajhicooabDoorW.PrintWords Go.Proofs.YtijbkiajhicooabDoorW.PrintLast Go.Proofs.YtijbkiajhicooabDoorW.PrintMore
attribute [local go_sem] max2_int min2_int max_two min_two max_three min_three max_four min_four   -- for this text's walks alone
set_option linter.unusedVariables false
set_option linter.unusedSimpArgs false

def stringslite_HasPrefix.f (a0 : ByteArray) (a1 : ByteArray) : Option (Bool) := if (a0.size : Int) ≥ (a1.size : Int) then (if 0 ≤ (a1.size : Int) then (if (a1.size : Int) ≤ (a0.size : Int) then (some ((a0.extract 0 ((a1.size : Int) : Int).toNat).toList == a1.toList)) else (none)) else (none)) else (some false)
set_option maxHeartbeats 8000000 in
set_option maxRecDepth 100000 in
theorem stringslite_HasPrefix.calls (a0 : ByteArray) (a1 : ByteArray) (r : Bool) (w : World) (h : stringslite_HasPrefix.f a0 a1 = some r) :
  Calls Tryd.prog 109 #[.string a0, .string a1] w fun e w' => e = .returned (.bool r) ∧ Drawn0 w w' := by
 have H : (if (a0.size : Int) ≥ (a1.size : Int) then (if 0 ≤ (a1.size : Int) then (if (a1.size : Int) ≤ (a0.size : Int) then (some ((a0.extract 0 ((a1.size : Int) : Int).toNat).toList == a1.toList)) else (none)) else (none)) else (some false)) = some r := h
 clear h
 by_cases c3 : (a0.size : Int) ≥ (a1.size : Int)
 ·rw [if_pos c3] at H
  have c3b0 : decide ((a1.size : Int) ≤ (a0.size : Int)) = true := decide_eq_true c3
  have c3b1 : decide (a1.size ≤ a0.size) = true := decide_eq_true (Int.ofNat_le.mp c3)
  clear c3
  by_cases c4 : 0 ≤ (a1.size : Int)
  ·rw [if_pos c4] at H
   have c4b0 := eq_true c4
   have c4b1 : decide (0 ≤ (a1.size : Int)) = true := decide_eq_true c4
   clear c4
   by_cases c5 : (a1.size : Int) ≤ (a0.size : Int)
   ·rw [if_pos c5] at H
    have c5b0 := eq_true c5
    have c5b1 : decide ((a1.size : Int) ≤ (a0.size : Int)) = true := decide_eq_true c5
    clear c5
    obtain rfl := Option.some.inj H
    go_enter Tryd.func109, Tryd.ntmps109
    go_wp2
    go_ret
    exact ⟨by first | rfl | (simp; done) | (simp [*]; done), by repeat (first | exact Drawn0.refl _ | apply Drawn0.step)⟩
   ·rw [if_neg c5] at H
    exact absurd H (by simp)
  ·rw [if_neg c4] at H
   exact absurd H (by simp)
 ·rw [if_neg c3] at H
  have c3b0 : decide ((a1.size : Int) ≤ (a0.size : Int)) = false := decide_eq_false c3
  have c3b1 : decide (a1.size ≤ a0.size) = false := decide_eq_false (fun h => c3 (Int.ofNat_le.mpr h))
  clear c3
  obtain rfl := Option.some.inj H
  go_enter Tryd.func109, Tryd.ntmps109
  go_wp2
  go_ret
  exact ⟨by first | rfl | (simp; done) | (simp [*]; done), by repeat (first | exact Drawn0.refl _ | apply Drawn0.step)⟩

end Go.Proofs.YtijbkiajhicooabDoor.PW

namespace Go.Proofs.YtijbkiajhicooabDoor.PW
open Go.RowKit Go.Proofs.YtijbkiajhicooabDoorW.PrintWords Go.Proofs.YtijbkiajhicooabDoorW.PrintLast Go.Proofs.YtijbkiajhicooabDoorW.PrintMore
attribute [local go_sem] max2_int min2_int max_two min_two max_three min_three max_four min_four   -- for this text's walks alone
set_option linter.unusedVariables false
set_option linter.unusedSimpArgs false

def strings_HasPrefix.f (a0 : ByteArray) (a1 : ByteArray) : Option (Bool) := (stringslite_HasPrefix.f a0 a1).bind fun t141 => (some t141)
set_option maxHeartbeats 8000000 in
set_option maxRecDepth 100000 in
theorem strings_HasPrefix.calls (a0 : ByteArray) (a1 : ByteArray) (r : Bool) (w : World) (h : strings_HasPrefix.f a0 a1 = some r) :
  Calls Tryd.prog 101 #[.string a0, .string a1] w fun e w' => e = .returned (.bool r) ∧ Drawn0 w w' := by
 have H : ((stringslite_HasPrefix.f a0 a1).bind fun t141 => (some t141)) = some r := h
 clear h
 replace H := Option.bind_eq_some_iff.mp H
 obtain ⟨t141, A30, H⟩ := H
 replace H : (some t141) = some r := H
 have A3 := Aside0.mk A30
 clear A30
 obtain rfl := Option.some.inj H
 go_enter Tryd.func101, Tryd.ntmps101
 go_wp2_with (first | ((with_reducible refine gate_callee (f := 109) rfl ?_); refine goesL_ (some 7) rfl rfl Tryd.func109 (by kernel_rfl) rfl #[.string a0, .string a1] rfl (by (try simp only [List.map_toArray, List.map_cons, List.map_nil]); first | done | rfl | (simp only [List.length_drop, List.length_take]; rfl)) ?_; (with_reducible refine (stringslite_HasPrefix.calls a0 a1 t141 _ A3.out).mono ?_); rintro e w' ⟨rfl, ⟨nd, rfl⟩⟩; refine ⟨_, rfl, ?_⟩))
 go_ret
 exact ⟨by first | rfl | (simp; done) | (simp [*]; done), by repeat (first | exact Drawn0.refl _ | apply Drawn0.step)⟩

end Go.Proofs.YtijbkiajhicooabDoor.PW

namespace Go.Proofs.YtijbkiajhicooabDoor.PW
open Go.RowKit Go.Proofs.YtijbkiajhicooabDoorW.PrintWords Go.Proofs.YtijbkiajhicooabDoorW.PrintLast Go.Proofs.YtijbkiajhicooabDoorW.PrintMore
attribute [local go_sem] max2_int min2_int max_two min_two max_three min_three max_four min_four   -- for this text's walks alone
set_option linter.unusedVariables false
set_option linter.unusedSimpArgs false

/-- What the package-level variable step.bad holds. -/
def LaidBad (w : World) : Prop := 0 < w.heap.size ∧ w.cell? ⟨0, 0, none⟩ = some (.int .i32 65533) ∧ w.cell? ⟨0, 1, none⟩ = some (.int .i64 1) ∧ w.cell? ⟨0, 2, none⟩ = some (.bool false)
theorem laid_block {w W : World} (h : LaidBad w) (e : W.heap[0]? = w.heap[0]?) : LaidBad W := by
 have hc : ∀ i : Nat, W.cell? ⟨0, i, none⟩ = w.cell? ⟨0, i, none⟩ := fun i => by simp [World.cell?, e]
 have hl : 0 < W.heap.size := by
  rcases Nat.eq_zero_or_pos W.heap.size with hz | hz
  ·rw [Array.getElem?_eq_none (by omega), Array.getElem?_eq_getElem h.1] at e
   cases e
  ·exact hz
 exact ⟨hl, by rw [hc]; exact h.2.1, by rw [hc]; exact h.2.2.1, by rw [hc]; exact h.2.2.2⟩
theorem laid_lt {w : World} (h : LaidBad w) : 0 < w.heap.size := h.1
theorem laid_below {w W : World} (h : LaidBad w) (hb : Below w.heap.size w W) : LaidBad W := laid_block h (hb.block 0 h.1)
theorem laid_cell {w : World} (h : LaidBad w) : w.cell? ⟨0, 0, none⟩ = some (.int .i32 65533) ∧ w.cell? ⟨0, 1, none⟩ = some (.int .i64 1) ∧ w.cell? ⟨0, 2, none⟩ = some (.bool false) := h.2

def hasFD (s : ByteArray) : Bool := decide (3 ≤ s.size) && ((s.extract 0 3).toList == ([239, 191, 189] : List UInt8))
/-- The step with which a string begins. -/
def firstOf (s : ByteArray) : Int × Int × Bool :=
 if s.size = 0 then (65533, 1, false)
 else if (Utf8.decode s 0).1 = 65533 then (if hasFD s then (65533, 3, true) else (65533, 1, false))
 else ((Utf8.decode s 0).1, ((Utf8.encode ((Utf8.decode s 0).1 : Int)).size : Int), true)
def step_first.f (a0 : ByteArray) : Option (Int × Int × Bool) := some (firstOf a0)

theorem blk_put3 {W : World} {g : Nat} {t : TypeId} {a b c : Value} (x y z : Value) (h : W.heap[g]? = some (.cells #[a, b, c] t (0, 0))) :
  (((W.setCell ⟨g, 0, none⟩ x).setCell ⟨g, 1, none⟩ y).setCell ⟨g, 2, none⟩ z).heap[g]? = some (.cells #[x, y, z] t (0, 0)) :=
 blk_put (blk_put (blk_put h 0 x (cs' := #[x, b, c]) rfl) 1 y (cs' := #[x, y, c]) rfl) 2 z rfl
theorem below_put3 {w W : World} {g : Nat} (h : Below w.heap.size w W) (hg : w.heap.size ≤ g) (x y z : Value) :
  Below w.heap.size w (((W.setCell ⟨g, 0, none⟩ x).setCell ⟨g, 1, none⟩ y).setCell ⟨g, 2, none⟩ z) := below_set (below_set (below_set h hg) hg) hg

set_option maxRecDepth 100000 in
theorem step_first.bad (s : ByteArray) (w : World) (hL : LaidBad w) (hs : s.size = 0) :
  Calls Tryd.prog 84 #[.string s] w fun e w' => e = .returned (.agg #[.int .i32 65533, .int .i64 1, .bool false]) ∧ Below w.heap.size w w' := by
 have hu := Tryd.underlying50
 have hnx := run_next_end (P := Tryd.prog) (w.alloc (.cells #[.int .i32 0, .int .i64 0, .bool false] 50)) s 0 0 (by omega)
 simp only [World.size_alloc] at hnx
 clear hs
 have hb : Below w.heap.size w ((w.alloc (.cells #[.int .i32 0, .int .i64 0, .bool false] 50)).iter s 0) := ((Below.refl _ _).alloc (Nat.le_refl _) _).alloc (by simp) _
 obtain ⟨h0, h1, h2⟩ := laid_cell (laid_below hL hb)
 have hg : ((w.alloc (.cells #[.int .i32 0, .int .i64 0, .bool false] 50)).iter s 0).heap[w.heap.size]? = some (.cells #[.int .i32 0, .int .i64 0, .bool false] 50 (0, 0)) := blk_alloc (blk_new w _) _
 have c0 := blk_cell hg 0
 have c1 := blk_cell hg 1
 have c2 := blk_cell hg 2
 have f0 := blk_frozen hg 0
 have f1 := blk_frozen hg 1
 have f2 := blk_frozen hg 2
 have HG := Aside0.mk hg
 have HB := Aside0.mk hb
 clear hg hb hL
 go_enter Tryd.func84, Tryd.ntmps84
 go_wp2
 generalize (w.alloc (.cells #[.int .i32 0, .int .i64 0, .bool false] 50)).iter s 0 = W at *
 refine wp_loop_rounds 1 ?_
 rw [rounds_succ]
 go_wp2
 refine bodyPost_ret (results_cell_row rfl _ _ w.heap.size 50 #[.int .i32 65533, .int .i64 1, .bool false] (0, 0) _ rfl (blk_put3 _ _ _ HG.out) Tryd.underlying50 rfl (by kernel_rfl)) rfl ?_
 exact ⟨rfl, below_put3 HB.out (Nat.le_refl _) _ _ _⟩

set_option maxRecDepth 100000 in
theorem step_first.whole (s : ByteArray) (w : World) (hL : LaidBad w) (hs : 0 < s.size) (hr : (Utf8.decode s 0).1 ≠ 65533) :
  Calls Tryd.prog 84 #[.string s] w fun e w' => e = .returned (.agg #[.int .i32 ((Utf8.decode s 0).1 : Int), .int .i64 ((Utf8.encode ((Utf8.decode s 0).1 : Int)).size : Int), .bool true]) ∧ Below w.heap.size w w' := by
 have hu := Tryd.underlying50
 have hu9 := Tryd.underlying9
 have hu21 := Tryd.underlying21
 have hnx := run_next_any (P := Tryd.prog) (w.alloc (.cells #[.int .i32 0, .int .i64 0, .bool false] 50)) s 0 0 hs
 simp only [World.size_alloc] at hnx
 generalize (Utf8.decode s 0).1 = r at *
 generalize (Utf8.decode s 0).2 = n at *
 have hr1 : (((r : Nat) : Int) == 65533) = false := by simp; omega
 clear hs hr
 have hb : Below w.heap.size w ((w.alloc (.cells #[.int .i32 0, .int .i64 0, .bool false] 50)).iter s (0 + n)) := ((Below.refl _ _).alloc (Nat.le_refl _) _).alloc (by simp) _
 have hg : ((w.alloc (.cells #[.int .i32 0, .int .i64 0, .bool false] 50)).iter s (0 + n)).heap[w.heap.size]? = some (.cells #[.int .i32 0, .int .i64 0, .bool false] 50 (0, 0)) := blk_alloc (blk_new w _) _
 have c0 := blk_cell hg 0
 have c1 := blk_cell hg 1
 have c2 := blk_cell hg 2
 have f0 := blk_frozen hg 0
 have f1 := blk_frozen hg 1
 have f2 := blk_frozen hg 2
 have HG := Aside0.mk hg
 have HB := Aside0.mk hb
 clear hg hb hL
 go_enter Tryd.func84, Tryd.ntmps84
 go_wp2
 generalize (w.alloc (.cells #[.int .i32 0, .int .i64 0, .bool false] 50)).iter s (0 + n) = W at *
 refine wp_loop_rounds 1 ?_
 rw [rounds_succ]
 go_wp2
 refine bodyPost_ret (results_cell_row rfl _ _ w.heap.size 50 #[.int .i32 r, .int .i64 ((Utf8.encode (r : Int)).size : Int), .bool true] (0, 0) _ rfl (blk_put3 _ _ _ HG.out) Tryd.underlying50 rfl (by kernel_rfl)) rfl ?_
 exact ⟨rfl, below_put3 HB.out (Nat.le_refl _) _ _ _⟩

theorem hasFD_of (s : ByteArray) : strings_HasPrefix.f s (⟨#[239, 191, 189]⟩ : ByteArray) = some (hasFD s) := by
 unfold strings_HasPrefix.f stringslite_HasPrefix.f hasFD
 have h3 : ((⟨#[239, 191, 189]⟩ : ByteArray).size : Int) = 3 := rfl
 rw [h3]
 by_cases h : 3 ≤ s.size
 ·rw [if_pos (by omega), if_pos (by omega), if_pos (by omega), decide_eq_true h]
  simp only [Option.bind_some, Bool.true_and]
  rw [show (⟨#[239, 191, 189]⟩ : ByteArray).toList = ([239, 191, 189] : List UInt8) by kernel_rfl]
  rfl
 ·rw [if_neg (by omega), decide_eq_false h]
  rfl
set_option maxRecDepth 100000 in
theorem step_first.fffd (s : ByteArray) (w : World) (hL : LaidBad w) (hs : 0 < s.size) (hr : (Utf8.decode s 0).1 = 65533) (hp : hasFD s = true) :
  Calls Tryd.prog 84 #[.string s] w fun e w' => e = .returned (.agg #[.int .i32 ((Utf8.decode s 0).1 : Int), .int .i64 ((Utf8.encode ((Utf8.decode s 0).1 : Int)).size : Int), .bool true]) ∧ Below w.heap.size w w' := by
 have hu := Tryd.underlying50
 have hu9 := Tryd.underlying9
 have hu21 := Tryd.underlying21
 have HP := Aside0.mk ((hasFD_of s).trans (congrArg some hp))
 have hnx := run_next_any (P := Tryd.prog) (w.alloc (.cells #[.int .i32 0, .int .i64 0, .bool false] 50)) s 0 0 hs
 simp only [World.size_alloc] at hnx
 generalize (Utf8.decode s 0).1 = r at *
 generalize (Utf8.decode s 0).2 = n at *
 have hr1 : (((r : Nat) : Int) == 65533) = true := by rw [hr]; rfl
 clear hs hr hp
 have hb : Below w.heap.size w ((w.alloc (.cells #[.int .i32 0, .int .i64 0, .bool false] 50)).iter s (0 + n)) := ((Below.refl _ _).alloc (Nat.le_refl _) _).alloc (by simp) _
 have hg : ((w.alloc (.cells #[.int .i32 0, .int .i64 0, .bool false] 50)).iter s (0 + n)).heap[w.heap.size]? = some (.cells #[.int .i32 0, .int .i64 0, .bool false] 50 (0, 0)) := blk_alloc (blk_new w _) _
 have c0 := blk_cell hg 0
 have c1 := blk_cell hg 1
 have c2 := blk_cell hg 2
 have f0 := blk_frozen hg 0
 have f1 := blk_frozen hg 1
 have f2 := blk_frozen hg 2
 have HG := Aside0.mk hg
 have HB := Aside0.mk hb
 clear hg hb hL
 go_enter Tryd.func84, Tryd.ntmps84
 go_wp2
 generalize (w.alloc (.cells #[.int .i32 0, .int .i64 0, .bool false] 50)).iter s (0 + n) = W at *
 refine wp_loop_rounds 1 ?_
 rw [rounds_succ]
 go_wp2_with (go_at_call 101; refine (strings_HasPrefix.calls s (⟨#[239, 191, 189]⟩ : ByteArray) true _ HP.out).mono ?_; rintro e w' ⟨rfl, ⟨nd, rfl⟩⟩)
 refine bodyPost_ret (results_cell_row rfl _ _ w.heap.size 50 #[.int .i32 r, .int .i64 ((Utf8.encode (r : Int)).size : Int), .bool true] (0, 0) _ rfl (blk_put3 _ _ _ (blk_drewN HG.out _)) Tryd.underlying50 rfl (by kernel_rfl)) rfl ?_
 exact ⟨rfl, below_put3 (pw_below_drewN HB.out _) (Nat.le_refl _) _ _ _⟩

set_option maxRecDepth 100000 in
theorem step_first.fffdbad (s : ByteArray) (w : World) (hL : LaidBad w) (hs : 0 < s.size) (hr : (Utf8.decode s 0).1 = 65533) (hp : hasFD s = false) :
  Calls Tryd.prog 84 #[.string s] w fun e w' => e = .returned (.agg #[.int .i32 65533, .int .i64 1, .bool false]) ∧ Below w.heap.size w w' := by
 have hu := Tryd.underlying50
 have hu9 := Tryd.underlying9
 have hu21 := Tryd.underlying21
 have HP := Aside0.mk ((hasFD_of s).trans (congrArg some hp))
 have hnx := run_next_any (P := Tryd.prog) (w.alloc (.cells #[.int .i32 0, .int .i64 0, .bool false] 50)) s 0 0 hs
 simp only [World.size_alloc] at hnx
 generalize (Utf8.decode s 0).1 = r at *
 generalize (Utf8.decode s 0).2 = n at *
 have hr1 : (((r : Nat) : Int) == 65533) = true := by rw [hr]; rfl
 clear hs hr hp
 have hb : Below w.heap.size w ((w.alloc (.cells #[.int .i32 0, .int .i64 0, .bool false] 50)).iter s (0 + n)) := ((Below.refl _ _).alloc (Nat.le_refl _) _).alloc (by simp) _
 obtain ⟨h0, h1, h2⟩ := laid_cell (laid_below hL hb)
 have hg : ((w.alloc (.cells #[.int .i32 0, .int .i64 0, .bool false] 50)).iter s (0 + n)).heap[w.heap.size]? = some (.cells #[.int .i32 0, .int .i64 0, .bool false] 50 (0, 0)) := blk_alloc (blk_new w _) _
 have c0 := blk_cell hg 0
 have c1 := blk_cell hg 1
 have c2 := blk_cell hg 2
 have f0 := blk_frozen hg 0
 have f1 := blk_frozen hg 1
 have f2 := blk_frozen hg 2
 have HG := Aside0.mk hg
 have HB := Aside0.mk hb
 clear hg hb hL
 go_enter Tryd.func84, Tryd.ntmps84
 go_wp2
 generalize (w.alloc (.cells #[.int .i32 0, .int .i64 0, .bool false] 50)).iter s (0 + n) = W at *
 refine wp_loop_rounds 1 ?_
 rw [rounds_succ]
 go_wp2_with (go_at_call 101; refine (strings_HasPrefix.calls s (⟨#[239, 191, 189]⟩ : ByteArray) false _ HP.out).mono ?_; rintro e w' ⟨rfl, ⟨nd, rfl⟩⟩)
 refine bodyPost_ret (results_cell_row rfl _ _ w.heap.size 50 #[.int .i32 65533, .int .i64 1, .bool false] (0, 0) _ rfl (blk_put3 _ _ _ (blk_drewN HG.out _)) Tryd.underlying50 rfl (by kernel_rfl)) rfl ?_
 exact ⟨rfl, below_put3 (pw_below_drewN HB.out _) (Nat.le_refl _) _ _ _⟩

theorem step_first.calls (a0 : ByteArray) (r1 r2 : Int) (r3 : Bool) (w : World) (hL : LaidBad w) (h : step_first.f a0 = some (r1, r2, r3)) :
  Calls Tryd.prog 84 #[.string a0] w fun e w' => e = .returned (.agg #[.int .i32 r1, .int .i64 r2, .bool r3]) ∧ Below w.heap.size w w' := by
 have h := Option.some.inj h
 unfold firstOf at h
 by_cases h0 : a0.size = 0
 ·rw [if_pos h0] at h
  cases h
  exact step_first.bad a0 w hL h0
 ·rw [if_neg h0] at h
  by_cases h1 : (Utf8.decode a0 0).1 = 65533
  ·rw [if_pos h1] at h
   cases hp : hasFD a0 with
   | true =>
    rw [hp, if_pos rfl] at h
    cases h
    have := step_first.fffd a0 w hL (by omega) h1 hp
    rw [h1] at this
    exact this
   | false =>
    rw [hp, if_neg (by decide)] at h
    cases h
    exact step_first.fffdbad a0 w hL (by omega) h1 hp
  ·rw [if_neg h1] at h
   cases h
   exact step_first.whole a0 w hL (by omega) h1

end Go.Proofs.YtijbkiajhicooabDoor.PW

namespace Go.Proofs.YtijbkiajhicooabDoor.PW
open Go.RowKit Go.Proofs.YtijbkiajhicooabDoorW.PrintWords Go.Proofs.YtijbkiajhicooabDoorW.PrintLast Go.Proofs.YtijbkiajhicooabDoorW.PrintMore
attribute [local go_sem] max2_int min2_int max_two min_two max_three min_three max_four min_four   -- for this text's walks alone
set_option linter.unusedVariables false
set_option linter.unusedSimpArgs false

/-- A step with its place. -/
abbrev PStep := Int × Int × Int × Bool
def stepsAt (s : ByteArray) : Nat → Nat → List PStep
 | 0, _ => []
 | k + 1, p => if p < s.size then ((p : Int), firstOf (s.extract p s.size)) :: stepsAt s k (p + (Utf8.decode s p).2) else []
def stepsFrom (s : ByteArray) (p : Nat) : List PStep := stepsAt s (s.size - p) p
def allSteps (s : ByteArray) : List PStep := stepsFrom s 0
theorem decode_pos (s : ByteArray) (p : Nat) (h : p < s.size) : 1 ≤ (Utf8.decode s p).2 := by
 by_cases ha : (s[p]'h).toNat < 128
 ·rw [decode_ascii s p h ha]
  exact Nat.le_refl _
 ·exact (decode_high s p h (by omega)).2
theorem stepsAt_fuel (s : ByteArray) : ∀ (k j p : Nat), s.size - p ≤ k → s.size - p ≤ j → stepsAt s k p = stepsAt s j p := by
 intro k
 induction k with
 | zero =>
  intro j p h _
  cases j with
  | zero => rfl
  | succ j => simp only [stepsAt]; rw [if_neg (by omega)]
 | succ k ih =>
  intro j p h hj
  cases j with
  | zero => simp only [stepsAt]; rw [if_neg (by omega)]
  | succ j =>
   simp only [stepsAt]
   by_cases hp : p < s.size
   ·have hw := decode_pos s p hp
    rw [if_pos hp, if_pos hp, ih j _ (by omega) (by omega)]
   ·rw [if_neg hp, if_neg hp]
theorem stepsFrom_cons (s : ByteArray) (p : Nat) (h : p < s.size) : stepsFrom s p = ((p : Int), firstOf (s.extract p s.size)) :: stepsFrom s (p + (Utf8.decode s p).2) := by
 have hw := decode_pos s p h
 obtain ⟨m, hm⟩ : ∃ m, s.size - p = m + 1 := ⟨s.size - p - 1, by omega⟩
 unfold stepsFrom
 rw [hm]
 simp only [stepsAt]
 rw [if_pos h, stepsAt_fuel s m (s.size - (p + (Utf8.decode s p).2)) _ (by omega) (Nat.le_refl _)]
theorem stepsFrom_nil (s : ByteArray) (p : Nat) (h : ¬ p < s.size) : stepsFrom s p = [] := by
 unfold stepsFrom
 rw [show s.size - p = 0 by omega]
 rfl
theorem stepsFrom_length (s : ByteArray) (p : Nat) : (stepsFrom s p).length ≤ s.size - p := by
 generalize hn : s.size - p = n
 induction n using Nat.strongRecOn generalizing p with
 | _ n ih =>
  by_cases h : p < s.size
  ·have hw := decode_pos s p h
   rw [stepsFrom_cons s p h, List.length_cons]
   have := ih (s.size - (p + (Utf8.decode s p).2)) (by omega) _ rfl
   omega
  ·rw [stepsFrom_nil s p h]
   exact Nat.zero_le _
/-- What a round of a loop over step.All must leave: all below n₀, the box of the text, and whatever is walked over. -/
def KpBox (n₀ Bs : Nat) (W W' : World) : Prop := Below n₀ W W' ∧ W'.heap[Bs]? = W.heap[Bs]? ∧ KeepsWalks W W'
abbrev encStep (x : PStep) : Array Value := #[.int .i64 x.1, .agg #[.int .i32 x.2.1, .int .i64 x.2.2.1, .bool x.2.2.2]]
attribute [local go_sem] Oper.semAt_some
theorem keeps_laid {n₀ Bs : Nat} {W W' : World} (h : KpBox n₀ Bs W W') (h0 : 0 < n₀) (hL : LaidBad W) : LaidBad W' := laid_block hL (h.1.block 0 h0)
set_option maxRecDepth 100000 in
set_option maxHeartbeats 1000000 in
theorem step_All1.within (n l Bs n₀ : Nat) (h1 : 1 ≤ n) (s : ByteArray) (hs : s.size ≤ 9223372036854775807) (J Jx : List PStep → World → Prop) (hn0 : 0 < n₀)
  (hY : ∀ pre x W, J pre W → pre.length < (allSteps s).length → YieldAt Fence.wide (n - 1) Tryd.prog l (encStep x) W fun e W' =>
   (e = .returned (.bool true) ∧ J (pre ++ [x]) W' ∧ KpBox n₀ Bs W W') ∨ (e = .returned (.bool false) ∧ Jx (pre ++ [x]) W'))
  (W : World) (hJ : AbidesFrom W.heap.size J) (hBs : W.heap[Bs]? = some (.cells #[.string s] 9 (0, 0))) (hn : n₀ ≤ W.heap.size) (hL : LaidBad W) (h0 : J [] W) :
  CallsIn Fence.wide n Tryd.prog 88 #[.func (.yield l) #[] #[], .pointer (some ⟨Bs, 0, none⟩)] W fun e W' => (∃ v, e = .returned v) ∧
   ((∃ ys, ys = allSteps s ∧ J ys W') ∨ (∃ pre, pre <+: allSteps s ∧ Jx pre W')) := by
 refine callsIn_of_wp Tryd.func88 rfl trivial ?_ rfl
 have hu9 := Tryd.underlying9
 have hcell := blk_cell hBs 0
 simp only [Tryd.ntmps88, List.size_toArray, List.length_cons, List.length_nil, Nat.reduceAdd, Nat.reduceSub, Array.replicate_succ, Array.replicate_zero, List.push_toArray, List.append_toArray, List.nil_append, List.cons_append]
 gi_wp2
 have hit : (W.iter s 0).heap[W.heap.size]? = some (.stringIter s 0) := World.iter_heap W s 0
 have hB0 : Below W.heap.size W (W.iter s 0) := (Below.refl _ W).alloc (Nat.le_refl _) _
 have hJ0 : J [] (W.iter s 0) := hJ _ _ _ none h0 (World.grownBy_alloc W _ none) (fun r e => by cases e)
 gi_loopw [3] (fun p wr => ∃ (pos : Nat) (pre : List PStep), wr.heap[W.heap.size]? = some (.stringIter s pos) ∧ allSteps s = pre ++ stepsFrom s pos ∧ J pre wr ∧ LaidBad wr ∧ wr.heap[Bs]? = some (.cells #[.string s] 9 (0, 0)) ∧ W.heap.size ≤ wr.heap.size ∧ n₀ ≤ wr.heap.size)
  (fun _ wr => s.size - wr.iterPos W.heap.size)
 case atStart => exact ⟨0, [], hit, rfl, hJ0, laid_below hL hB0, blk_below hBs hB0, hB0.size, Nat.le_trans hn hB0.size⟩
 case round =>
  obtain ⟨pos, pre, hi, hx, hJs, hLr, hBr, hsz, hnr⟩ := hrel
  have hcr := blk_cell hBr 0
  have ne1 : Bs ≠ W.heap.size := by have := blk_lt hBs; omega
  by_cases hp : pos < s.size
  ·have hnx := Lib.run_next_any_at (P := Tryd.prog) wr W.heap.size s pos 0 hi hp
   have hw := decode_pos s pos hp
   have HI := Aside0.mk (show wr.iterPos W.heap.size = pos by simp [World.iterPos, hi])
   have hi1 := Lib.iterAt_heap wr W.heap.size s pos (pos + (Utf8.decode s pos).2) hi
   have hB1 : (wr.iterAt W.heap.size s (pos + (Utf8.decode s pos).2)).heap[Bs]? = some (.cells #[.string s] 9 (0, 0)) := (Lib.iterAt_other wr W.heap.size Bs s _ ne1).trans hBr
   have hL1 : LaidBad (wr.iterAt W.heap.size s (pos + (Utf8.decode s pos).2)) := laid_block hLr (Lib.iterAt_other wr W.heap.size 0 s _ (by omega))
   have hs1 : (wr.iterAt W.heap.size s (pos + (Utf8.decode s pos).2)).heap.size = wr.heap.size := Lib.iterAt_size _ _ _ _
   have hJ1 : J pre (wr.iterAt W.heap.size s (pos + (Utf8.decode s pos).2)) := hJ _ _ _ (some W.heap.size) hJs
    ⟨rfl, rfl, rfl, by rw [hs1]; exact Nat.le_refl _, fun k _ hk => Lib.iterAt_other wr W.heap.size k s _ (fun e => hk (by rw [e]))⟩ (fun r e => by cases e; exact ⟨Nat.le_refl _, _, hi, rfl⟩)
   have hcons := stepsFrom_cons s pos hp
   have hlen : pre.length < (allSteps s).length := by rw [hx, hcons]; simp
   have hcx := blk_cell hB1 0
   have HP := Aside0.mk hp
   have hr1 : (pos : Int) ≤ (s.size : Int) := by omega
   have hr2 : (s.size : Int) ≤ 9223372036854775807 := by omega
   have hp' : pos ≤ s.size := by omega
   clear hcr hBr hLr hJs hit hi hBs hcell hL hp
   generalize wr.iterAt W.heap.size s (pos + (Utf8.decode s pos).2) = w1 at *
   obtain ⟨⟨r1, r2, r3⟩, hf⟩ : ∃ x, firstOf (s.extract pos s.size) = x := ⟨_, rfl⟩
   rw [hf] at hcons
   have HF := Aside0.mk hf
   have HC := Aside0.mk hcons
   have HX := Aside0.mk hx
   clear hf hcons hx
   gi_wp2_with (refine ⟨trivial, ?_⟩; gi_at_call 84; refine (callsIn_wide.2 (step_first.calls (s.extract pos s.size) r1 r2 r3 _ hL1 (congrArg some HF.out))).mono ?_; rintro e w2 ⟨rfl, hb2⟩; obtain ⟨fn, tmps, assign, body, hy, hR⟩ := hY pre ((pos : Int), r1, r2, r3) w2 (hJ _ _ _ none hJ1 (grown_of_below hb2 none) (fun r e => by cases e)) hlen)
   refine hR.mono ?_
   rintro e W3 (⟨rfl, hJ3, hk3⟩ | ⟨rfl, hJx3⟩)
   ·have hL3 : LaidBad W3 := keeps_laid hk3 hn0 (laid_below hL1 hb2)
    have hB3 : W3.heap[Bs]? = some (.cells #[.string s] 9 (0, 0)) := hk3.2.1.trans (blk_below hB1 hb2)
    have hi3 : W3.heap[W.heap.size]? = some (.stringIter s (pos + (Utf8.decode s pos).2)) := hk3.2.2.same _ _ (blk_below hi1 hb2) rfl
    gi_wp2
    go_roundw
    case rel => exact ⟨pos + (Utf8.decode s pos).2, pre ++ [((pos : Int), r1, r2, r3)], hi3, by rw [HX.out, HC.out]; simp, hJ3, hL3, hB3, by have := hb2.size; have := hk3.1.size; omega, by have := hb2.size; have := hk3.1.size; omega⟩
    case measure =>
     have e1 : W3.iterPos W.heap.size = pos + (Utf8.decode s pos).2 := by simp [World.iterPos, hi3]
     have e2 := HI.out
     have := HP.out
     omega
   ·gi_wp2
    refine bodyPost_ret (results_none rfl _ _ _) rfl ?_
    exact ⟨⟨_, rfl⟩, .inr ⟨pre ++ [((pos : Int), r1, r2, r3)], ⟨stepsFrom s (pos + (Utf8.decode s pos).2), by rw [HX.out, HC.out]; simp⟩, hJx3⟩⟩
  ·have hnx := Lib.run_next_end_at (P := Tryd.prog) wr W.heap.size s pos 0 hi hp
   clear hit
   gi_wp2
   go_end0
   exact ⟨⟨_, rfl⟩, .inl ⟨_, rfl, by rw [hx, stepsFrom_nil s pos hp, List.append_nil]; exact hJs⟩⟩

theorem KpBox.t {n₀ Bs : Nat} {A B C : World} (h : KpBox n₀ Bs A B) (k : KpBox n₀ Bs B C) : KpBox n₀ Bs A C := ⟨h.1.trans k.1, k.2.1.trans h.2.1, h.2.2.trans k.2.2⟩
theorem KpBox.b {n₀ Bs : Nat} {w : World} (hn : n₀ ≤ w.heap.size) (hB : Bs < w.heap.size) (W : World) (l : Nat) (o o' : Obj) (hl : w.heap.size ≤ l) (h : W.heap[l]? = some o) (hc : o.isCells = false) (hw : o.isWalk = false) : KpBox n₀ Bs W (W.putObj l o') :=
 ⟨belowK_b hn W l o o' hl h hc hw, World.putObj_heap_other (by omega), KeepsWalks.putObj _ h hw⟩
theorem KpBox.refl (n₀ Bs : Nat) (W : World) : KpBox n₀ Bs W W := ⟨Below.refl _ _, rfl, KeepsWalks.refl _⟩
theorem KpBox.of {n₀ Bs : Nat} {W W' : World} (h : Below n₀ W W') (hb : W'.heap[Bs]? = W.heap[Bs]?) (hk : KeepsOthers W W') : KpBox n₀ Bs W W' := ⟨h, hb, hk.walks⟩

/-- What step.All hands back: the closure over the box Bs of the text. -/
theorem step_All1.stops (n Bs n₀ : Nat) (h1 : 1 ≤ n) (s : ByteArray) (hs : s.size ≤ 9223372036854775807) (hn0 : 0 < n₀) (w : World)
  (hBs : w.heap[Bs]? = some (.cells #[.string s] 9 (0, 0))) (hn : n₀ ≤ w.heap.size) (hL : LaidBad w) :
  SeqStopsK Fence.wide n Tryd.prog 88 #[.pointer (some ⟨Bs, 0, none⟩)] encStep (KpBox n₀ Bs) (fun ys => ys = allSteps s) (fun pre => pre <+: allSteps s) (allSteps s).length w :=
 fun l J Jx W hW hJ _ hY h0 => step_All1.within n l Bs n₀ h1 s hs J Jx hn0 hY W hJ (blk_below hBs hW) (Nat.le_trans hn hW.size) (laid_below hL hW) h0

set_option maxRecDepth 100000 in
theorem step_All.calls (A0 : Option Addr) (c0 : Nat) (l0 : List Int) (w : World) (hr0 : Kd.C (Kd.int .u8) w A0 l0.length l0) (hc0 : l0.length ≤ c0) :
  Calls Tryd.prog 57 #[.slice A0 l0.length c0] w fun e w' => e = .returned (.func (.func 88) #[] #[.pointer (some ⟨w.heap.size, 0, none⟩)]) ∧ w' = w.alloc (.cells #[.string (strOfNums l0)] 9) := by
 have hcv := Kd.C_string (src := 22) (dst := 9) (c := c0) Tryd.underlying22 Tryd.underlying5 Tryd.underlying9 hr0
 have hu9 := Tryd.underlying9
 clear hr0
 go_enter Tryd.func57, Tryd.ntmps57
 go_wp2
 go_ret
 exact ⟨rfl, rfl⟩

theorem R_abides {α : Type} {d : Kd α} {e : Nat} {w w1 : World} {base : Nat} {ok : Nat → Prop} {v : Value} {xs : List α} (h : d.R e w base ok v xs) {row : Option Nat} (hg : w.grownBy w1 row)
  (hr : ∀ r, row = some r → ∃ o : Obj, w.heap[r]? = some o ∧ o.isCells = false) : d.R e w1 base ok v xs :=
 Kd.R_mono (Kd.R_grown (Kd.R_bound h) hg (fun k hk he => by
  obtain ⟨_, _, _, q, _, cells, hc⟩ := hk
  obtain ⟨o, ho, hn⟩ := hr k he.symm
  rw [hc] at ho
  cases ho
  cases hn)) (fun _ hk => hk.1)
theorem blk_abides {w w1 : World} {g : Nat} {cs : Array Value} {t : TypeId} (h : w.heap[g]? = some (.cells cs t (0, 0))) {row : Option Nat} (hg : w.grownBy w1 row)
  (hr : ∀ r, row = some r → ∃ o : Obj, w.heap[r]? = some o ∧ o.isCells = false) : w1.heap[g]? = some (.cells cs t (0, 0)) :=
 blk_grown h hg (fun he => by
  obtain ⟨o, ho, hn⟩ := hr g he.symm
  rw [h] at ho
  cases ho
  cases hn)
theorem R_cells {α : Type} {d : Kd α} {e : Nat} {w : World} {base : Nat} {ok : Nat → Prop} {v : Value} {xs : List α} (h : d.R e w base ok v xs) (k : Nat) (hk : v.ownBlock = some k) : ∃ cells, w.heap[k]? = some (.cells cells e (0, 0)) := by
 obtain ⟨inner, ho⟩ := Kd.R_own h
 exact own_typed ho k hk
theorem keepsOthers_R {α : Type} {d : Kd α} {e : Nat} {w w1 : World} {base : Nat} {ok : Nat → Prop} {v : Value} {xs : List α} (h : d.R e w base ok v xs) (hg : w.grownBy w1 v.ownBlock) : KeepsOthers w w1 :=
 KeepsOthers.of_grownBy hg (fun j o hj ho => by
  obtain ⟨cells, hc⟩ := R_cells h j hj
  rw [hc] at ho
  cases ho
  rfl)
theorem R_ne_blk {α : Type} {d : Kd α} {e : Nat} {w : World} {base : Nat} {ok : Nat → Prop} {v : Value} {xs : List α} (h : d.R e w base ok v xs) {g : Nat} {cs : Array Value} {t : TypeId} (hg : w.heap[g]? = some (.cells cs t (0, 0))) (hne : e ≠ t) : some g ≠ v.ownBlock := by
 intro he
 obtain ⟨cells, hc⟩ := R_cells h g he.symm
 rw [hg] at hc
 injection hc with hc
 injection hc with _ ht
 exact hne ht.symm
theorem R_appendIn {F : Fence} {nF : Nat} {P : Program} {ops : Array Oper} {rest : List Oper} {o : Oper} {a : Act} {Q : Exit → Act → World → Prop} {α : Type} (d : Kd α) {w0 W : World} (base : Nat) (hgd : o.guard = none) (s x : Operand) (t e : TypeId) (z : Value) (bytes : Nat)
  (ho : o.op = .call { callee := .builtin .append, args := #[s, x], argTypes := #[t, t] })
  (ht : P.underlying t = some (.slice e)) (hinfo : (P.info? e).map (fun i => (i.zero, i.size, i.bytes)) = some (some z, d.sz, bytes)) (hz : z.cells.size = d.sz) (hs0 : 0 < d.sz) (hb0 : 0 < bytes)
  (v : Value) (xs : List α) (p : α) (cs : List Value) (ok okp : Nat → Prop) (hs : a.eval s = v) (hx : a.eval x = .slice (some ⟨W.heap.size, 0, none⟩) 1 1) (hp : d.M W base okp p cs) (hokp : ∀ k, okp k → ok k ∧ some k ≠ v.ownBlock) (hfresh : ∀ k, W.heap.size ≤ k → ok k)
  (HO : d.R e W base ok v xs) (HB : Below base w0 W) (hbase : base ≤ W.heap.size) (hl : (xs.length + 1) * bytes ≤ 140737488355328)
  (h : ∀ v1 w1, d.R e w1 base ok v1 (xs ++ [p]) → Below base w0 w1 → W.grownBy w1 v.ownBlock → v1.ownBlock ≠ none → wpListIn F nF P ops Q rest (a.put o.dst v1) w1) :
  wpListIn F nF P ops Q (o :: rest) a (W.alloc (.cells cs.toArray e)) := by
 obtain ⟨h0, inner, hown, hr⟩ := HO
 obtain ⟨i0, hi, hzz⟩ := Option.map_eq_some_iff.1 hinfo
 simp only [Prod.mk.injEq] at hzz
 obtain ⟨hz0, hz1, hz2⟩ := hzz
 have hlen : xs.length + 1 ≤ 140737488355328 := Nat.le_trans (Nat.le_mul_of_pos_right _ hb0) hl
 have hys : cs.length = d.sz := d.K_len (d.K_of_M hp)
 refine wpListIn_append_own_at (W.alloc (.cells cs.toArray e)) hgd s x t ho base e i0 z d.sz bytes ht hi hz0 hz1 hz2 hz hs0 v xs.length inner hs (hown.alloc _) ⟨W.heap.size, 0, none⟩ 1 1 cs hx (by rw [hys]; simp)
  (by simpa using World.news_of_block (cs := cs.toArray) (t := e) (fr := (0, 0)) (heap_alloc_new W (.cells cs.toArray e))) (d.K_one (d.K_of_M hp)) (by simp only [maxLen]; omega) hl (by simp; omega) ?_
 intro v1 w1 hown1 hg hnil hat
 have hg1 : W.grownBy w1 v.ownBlock := World.grownBy.trans (World.grownBy_alloc W _ _) hg
 have hat1 : v1.ownBlock = v.ownBlock ∨ ∃ b, v1.ownBlock = some b ∧ W.heap.size ≤ b := by
  rcases hat with hat | hat
  ·exact .inl hat
  ·exact .inr ⟨_, hat, by simp⟩
 refine h v1 w1 (Kd.R_appended h0 hr hp hokp hfresh hown1 hg1 hat1) (HB.grown hg1 hbase (own_base hown)) hg1 ?_
 rcases hown1.2 with ⟨_, h0⟩ | ⟨g, cap, cur, hv, _⟩
 ·have := hown1.1
  rw [h0] at this
  simp at this
  omega
 ·rw [hv]
  simp [Value.ownBlock]
theorem blk_put7 {W : World} {g : Nat} {t : TypeId} {a0 a1 a2 a3 a4 a5 a6 : Value} (x0 x1 x2 x3 x4 x5 x6 : Value) (h : W.heap[g]? = some (.cells #[a0, a1, a2, a3, a4, a5, a6] t (0, 0))) :
  (((((((W.setCell ⟨g, 0, none⟩ x0).setCell ⟨g, 1, none⟩ x1).setCell ⟨g, 2, none⟩ x2).setCell ⟨g, 3, none⟩ x3).setCell ⟨g, 4, none⟩ x4).setCell ⟨g, 5, none⟩ x5).setCell ⟨g, 6, none⟩ x6).heap[g]? = some (.cells #[x0, x1, x2, x3, x4, x5, x6] t (0, 0)) :=
 blk_put (blk_put (blk_put (blk_put (blk_put (blk_put (blk_put h 0 x0 (cs' := #[x0, a1, a2, a3, a4, a5, a6]) rfl) 1 x1 (cs' := #[x0, x1, a2, a3, a4, a5, a6]) rfl) 2 x2 (cs' := #[x0, x1, x2, a3, a4, a5, a6]) rfl) 3 x3 (cs' := #[x0, x1, x2, x3, a4, a5, a6]) rfl) 4 x4 (cs' := #[x0, x1, x2, x3, x4, a5, a6]) rfl) 5 x5 (cs' := #[x0, x1, x2, x3, x4, x5, a6]) rfl) 6 x6 rfl
theorem below_put7 {w W : World} {g : Nat} (h : Below w.heap.size w W) (hg : w.heap.size ≤ g) (x0 x1 x2 x3 x4 x5 x6 : Value) :
  Below w.heap.size w (((((((W.setCell ⟨g, 0, none⟩ x0).setCell ⟨g, 1, none⟩ x1).setCell ⟨g, 2, none⟩ x2).setCell ⟨g, 3, none⟩ x3).setCell ⟨g, 4, none⟩ x4).setCell ⟨g, 5, none⟩ x5).setCell ⟨g, 6, none⟩ x6) :=
 below_set (below_set (below_set (below_set (below_set (below_set (below_set h hg) hg) hg) hg) hg) hg) hg

end Go.Proofs.YtijbkiajhicooabDoor.PW

namespace Go.Proofs.YtijbkiajhicooabDoor.PW
open Go.RowKit Go.Proofs.YtijbkiajhicooabDoorW.PrintWords Go.Proofs.YtijbkiajhicooabDoorW.PrintLast Go.Proofs.YtijbkiajhicooabDoorW.PrintMore
attribute [local go_sem] max2_int min2_int max_two min_two max_three min_three max_four min_four   -- for this text's walks alone
set_option linter.unusedVariables false
set_option linter.unusedSimpArgs false

/-- A step's kind, by its rune and whether it is whole. -/
def kindOf (r : Int) (w : Bool) : Int :=
 if w = true then (if r = 32 ∨ r = 9 then 1 else if r = 10 ∨ r = 13 then 2 else if (48 ≤ r ∧ r ≤ 57) ∨ r = 95 ∨ (65 ≤ r ∧ r ≤ 90) ∨ (97 ≤ r ∧ r ≤ 122) ∨ 128 ≤ r then 3 else 4) else 5
theorem words_Kind.is (r x : Int) (w : Bool) : words_Kind.f 3 r x w = some (kindOf r w) := by
 unfold words_Kind.f kindOf
 cases w with
 | false => rfl
 | true =>
  simp only [if_true, words_Kind.j0, words_Kind.j1, words_Kind.j2]
  by_cases h1 : r = 32
  ·simp [h1]
  ·by_cases h2 : r = 9
   ·simp [h2]
   ·by_cases h3 : r = 10
    ·simp [h3]
    ·by_cases h4 : r = 13
     ·simp [h4]
     ·rw [if_neg h1, if_neg h2, if_neg h3]
      have e13 : (r == 13) = false := by simpa using h4
      rw [e13, if_neg (by decide), if_neg (show ¬ (r = 32 ∨ r = 9) by omega), if_neg (show ¬ (r = 10 ∨ r = 13) by omega)]
      simp only [show (r == 95) = decide (r = 95) by rw [Bool.eq_iff_iff]; simp, decide_eq_true_eq, Bool.false_eq_true, if_false]
      by_cases h5 : (48 ≤ r ∧ r ≤ 57) ∨ r = 95 ∨ (65 ≤ r ∧ r ≤ 90) ∨ (97 ≤ r ∧ r ≤ 122) ∨ 128 ≤ r
      ·rw [if_pos h5]
       repeat' split
       all_goals first | rfl | (exfalso; omega)
      ·rw [if_neg h5]
       repeat' split
       all_goals first | rfl | (exfalso; omega)
/-- One more step behind the runs so far. -/
def runStep (out : List S109) (x : PStep) : List S109 :=
 if 0 < out.length ∧ (rd_T109 out ((out.length : Int) - 1)).f1 = kindOf x.2.1 x.2.2.2 then
  out.set ((out.length : Int) - 1).toNat ⟨⟨(rd_T109 out ((out.length : Int) - 1)).f0.f0, wrap64 (x.1 + x.2.2.1)⟩, (rd_T109 out ((out.length : Int) - 1)).f1⟩
 else out ++ [⟨⟨x.1, wrap64 (x.1 + x.2.2.1)⟩, kindOf x.2.1 x.2.2.2⟩]
def runsOf (l0 : List Int) : List S109 := (allSteps (strOfNums l0)).foldl runStep []
def words_runs.f (l0 : List Int) : Option (List S109) := if l0.length ≤ 4398046511104 then some (runsOf l0) else none
theorem runStep_length (out : List S109) (x : PStep) : (runStep out x).length ≤ out.length + 1 := by
 unfold runStep
 split
 ·simp
 ·simp
theorem runs_length (l : List PStep) : ∀ out : List S109, (l.foldl runStep out).length ≤ out.length + l.length := by
 induction l with
 | nil => intro out; simp
 | cons x l ih => intro out; have := ih (runStep out x); have := runStep_length out x; simp only [List.foldl_cons, List.length_cons]; omega
/-- How a round of the loop is left. -/
def RunsPost (B : Nat) (W : World) (out : List S109) : Exit → Act → World → Prop := fun e _ W2 =>
 e = .normal ∧ KeepsOthers W W2 ∧ Below B W W2 ∧ W2.heap[B + 1]? = W.heap[B + 1]? ∧ ∃ v, W2.heap[B]? = some (.cells #[v] 110 (0, 0)) ∧ Kd.R k109 109 W2 B (fun _ => True) v out
attribute [local go_sem] Oper.semAt_some
set_option maxRecDepth 100000 in
set_option maxHeartbeats 2000000 in
theorem words_runs.walk (A0 : Option Addr) (c0 : Nat) (l0 : List Int) (w : World) (hr0 : Kd.C (Kd.int .u8) w A0 l0.length l0) (hc0 : l0.length ≤ c0) (hL : LaidBad w) (hlim : l0.length ≤ 4398046511104) :
  CallsIn Fence.wide 10 Tryd.prog 52 #[.slice A0 l0.length c0] w fun e w' => ∃ v0_ : Value, e = .returned (v0_) ∧ Kd.R k109 109 w' w.heap.size (fun _ => True) v0_ (runsOf l0) ∧ Below w.heap.size w w' := by
 refine callsIn_of_wp_marks Tryd.func52 rfl trivial ?_ rfl
 have hBa : Below w.heap.size w (w.alloc (.cells #[.slice none 0 0] 110)) := (Below.refl _ w).alloc (Nat.le_refl _) _
 have hra : Kd.C (Kd.int .u8) (w.alloc (.cells #[.slice none 0 0] 110)) A0 l0.length l0 := Kd.C_alloc hr0 _
 have HRa := Aside0.mk hra
 have HR := Aside0.mk hr0
 clear hra hr0
 simp only [Tryd.ntmps52, List.size_toArray, List.length_cons, List.length_nil, Nat.reduceAdd, Nat.reduceSub, Array.replicate_succ, Array.replicate_zero, List.push_toArray, List.append_toArray, List.nil_append, List.cons_append]
 gi_wp2_with (refine ⟨trivial, ?_⟩; gi_at_call 57; refine (callsIn_wide.2 (step_All.calls A0 c0 l0 _ HRa.out hc0)).mono ?_; rintro e w' ⟨rfl, rfl⟩)
 have hB1 : Below w.heap.size w ((w.alloc (.cells #[.slice none 0 0] 110)).alloc (.cells #[.string (strOfNums l0)] 9)) := hBa.alloc (by simp) _
 have b0 : ((w.alloc (.cells #[.slice none 0 0] 110)).alloc (.cells #[.string (strOfNums l0)] 9)).heap[w.heap.size]? = some (.cells #[.slice none 0 0] 110 (0, 0)) := blk_alloc (blk_new w _) _
 have bs : ((w.alloc (.cells #[.slice none 0 0] 110)).alloc (.cells #[.string (strOfNums l0)] 9)).heap[w.heap.size + 1]? = some (.cells #[.string (strOfNums l0)] 9 (0, 0)) := by
  have := blk_new (w.alloc (.cells #[.slice none 0 0] 110)) (.cells #[.string (strOfNums l0)] 9)
  rwa [World.size_alloc] at this
 have hsz : ((w.alloc (.cells #[.slice none 0 0] 110)).alloc (.cells #[.string (strOfNums l0)] 9)).heap.size = w.heap.size + 2 := by simp
 have hL1 := laid_below hL hB1
 have hpos : 0 < w.heap.size := laid_lt hL
 have hns : (strOfNums l0).size ≤ 4398046511104 := by rw [strOfNums_size]; exact hlim
 have hN : (allSteps (strOfNums l0)).length ≤ 4398046511104 := Nat.le_trans (stepsFrom_length _ _) (by omega)
 generalize (w.alloc (.cells #[.slice none 0 0] 110)).alloc (.cells #[.string (strOfNums l0)] 9) = W1 at *
 clear HRa HR hBa
 refine wpIn_rangeFunc_ownH rfl (by decide) (gf := 88) (lb := #[.pointer (some ⟨w.heap.size + 1, 0, none⟩)]) rfl trivial (enters_of Tryd.func88 (by kernel_rfl) rfl)
  (step_All1.stops (10 - 1) (w.heap.size + 1) w.heap.size (by decide) (strOfNums l0) (by omega) hpos W1 bs hB1.size hL1) KpBox.t (KpBox.b hB1.size (by omega)) (Below.refl _ _) (fun _ => rfl)
  (fun pre W => Below w.heap.size w W ∧ ∃ v, W.heap[w.heap.size]? = some (.cells #[v] 110 (0, 0)) ∧ Kd.R k109 109 W w.heap.size (fun _ => True) v (pre.foldl runStep []) ∧ W.heap[w.heap.size + 1]? = some (.cells #[.string (strOfNums l0)] 9 (0, 0)))
  (fun _ _ _ => False)
  (OwnFrom.and (ownFrom_below (Nat.le_refl _) (by omega)) (fun s X Y row hs hg hr => by
   obtain ⟨v, h1, h2, h3⟩ := hs
   exact ⟨v, blk_abides h1 hg (fun r e => (hr r e).2), R_abides h2 hg (fun r e => (hr r e).2), blk_abides h3 hg (fun r e => (hr r e).2)⟩))
  (fun _ _ _ _ _ hs _ _ => hs)
  ⟨hB1, _, b0, Kd.R_nil _ _ _ _ _, bs⟩
  (fun x a' W => ∃ Bx, w.heap.size + 1 < Bx ∧ W.heap[Bx]? = some (.cells #[.int .i32 x.2.1, .int .i64 x.2.2.1, .bool x.2.2.2] 50 (0, 0)) ∧ a' = { tmps := #[.slice A0 l0.length c0, undef, .slice none 0 0, .pointer (some ⟨w.heap.size, 0, none⟩), .int .i64 x.1, .pointer (some ⟨Bx, 0, none⟩), undef, undef, .slice A0 l0.length c0, .func (.func 88) #[] #[.pointer (some ⟨w.heap.size + 1, 0, none⟩)], .int .i64 x.1, .agg #[.int .i32 x.2.1, .int .i64 x.2.2.1, .bool x.2.2.2], undef, undef, undef, undef, undef, undef, undef, undef, undef, undef, undef, undef, undef, undef, undef, undef, undef, undef, undef, undef, undef, undef, undef, undef, undef, undef, undef, undef, undef, undef, undef, undef, undef, undef, undef, undef, undef], defers := [] })
  (fun x a' _ X Y row hs hg hr => by obtain ⟨Bx, h1, h2, h3⟩ := hs; exact ⟨Bx, h1, blk_abides h2 hg (fun r e => (hr r e).2), h3⟩)
  ?assign ?body ?done ?stop
 case assign =>
  rintro l pre x W K ⟨hB, v, h1, h2, h3⟩ hK
  have hu := Tryd.underlying50
  gi_wp2
  have hlt := blk_lt h3
  exact hK _ _ ((KeepsOthers.alloc _ _).from _) (KpBox.of ((Below.refl _ W).alloc hB.size _) ((blk_alloc h3 _).trans h3.symm) (KeepsOthers.alloc _ _)) ⟨hB.alloc hB.size _, v, blk_alloc h1 _, Kd.R_alloc h2 _, blk_alloc h3 _⟩ ⟨W.heap.size, by omega, blk_new W _, rfl⟩
 case body =>
  rintro l pre x a' W hl ⟨r, hr⟩ ⟨hB, v, h1, h2, h3⟩ ⟨Bx, hBx, hbx, rfl⟩ hlen
  obtain ⟨xp, xr, xw, xb⟩ := x
  dsimp only at hbx ⊢
  have hu := Tryd.underlying50
  have hc1 := blk_cell h1 0
  have hf1 := blk_frozen h1 0
  have hcx0 := blk_cell hbx 0
  have hcx1 := blk_cell hbx 1
  have hcx2 := blk_cell hbx 2
  have hout : (pre.foldl runStep []).length ≤ 4398046511104 := by have := runs_length pre []; simp at this; omega
  refine wpIn_mono (Q := RunsPost w.heap.size W (runStep (pre.foldl runStep []) (xp, xr, xw, xb))) ?walk ?post
  case post =>
   rintro e a2 W2 ⟨rfl, g1, g2, g3, v2, g4, g5⟩
   exact ⟨g1.from _, KpBox.of g2 g3 g1, hB.trans g2, v2, g4, by rw [List.foldl_append]; exact g5, g3.trans h3⟩
  have h1' : 1 ≤ 10 - 1 - 1 := by decide
  generalize pre.foldl runStep [] = out at *
  have HK := Aside0.mk (words_Kind.is xr xw xb)
  generalize hkd : kindOf xr xb = kd at *
  gi_wp2_with (fail)
  refine ⟨trivial, ?_⟩
  gi_at_call 23
  refine (CallsIn.inRound l (callsIn_wide.2 (words_Kind.calls 3 xr xw xb kd _ HK.out))).mono ?_
  rintro e Wk ⟨rfl, hbk⟩
  have HO1 := Aside0.mk (KeepsOthers.of_grownBy (grown_of_below hbk none) (fun j o hj _ => by cases hj))
  have HB1 := Aside0.mk (hbk.mono hB.size)
  have H31 := Aside0.mk ((blk_below h3 hbk).trans h3.symm)
  replace h1 := blk_below h1 hbk
  replace h2 := Kd.R_below h2 hbk
  replace hbx := blk_below hbx hbk
  replace h3 := blk_below h3 hbk
  have hBk : w.heap.size ≤ Wk.heap.size := Nat.le_trans hB.size hbk.size
  clear hc1 hf1 hcx0 hcx1 hcx2 HK hr hbk
  obtain ⟨A, cp, rfl⟩ := Kd.R_slice h2
  have hc1 := blk_cell h1 0
  have hf1 := blk_frozen h1 0
  have hcx0 := blk_cell hbx 0
  have hcx1 := blk_cell hbx 1
  have hcx2 := blk_cell hbx 2
  by_cases h0 : out.length = 0
  ·obtain rfl : out = [] := List.eq_nil_of_length_eq_zero h0
   have hrs : runStep [] (xp, xr, xw, xb) = [] ++ [⟨⟨xp, wrap64 (xp + xw)⟩, kd⟩] := by simp [runStep, hkd]
   have HRS := Aside0.mk hrs
   have H2 := Aside0.mk h2
   clear h2 hrs h0 hout hkd
   have HLEN := Aside0.mk (show (([] : List S109).length + 1) * 24 ≤ 140737488355328 by decide)
   have H3 := Aside0.mk h3
   clear h3
   gi_wp2_with (gi_at_builtin; refine R_appendIn k109 (w0 := W) w.heap.size rfl (.tmp 37) (.tmp 46) 110 109 (.agg #[.int .i64 0, .int .i64 0, .int .i64 0]) 24 rfl Tryd.underlying110 info109 rfl (by decide) (by decide) (.slice A ([] : List S109).length cp) ([] : List S109) ⟨⟨xp, wrap64 (xp + xw)⟩, kd⟩ [.int .i64 xp, .int .i64 (wrap64 (xp + xw)), .int .i64 kd] (fun _ => True) (fun _ => False) rfl rfl (k109_mkM _ _ _ ⟨⟨xp, wrap64 (xp + xw)⟩, kd⟩) (fun _ hk => hk.elim) (fun _ _ => trivial) H2.out HB1.out hBk HLEN.out ?_; intro v1 w1 HR1 HB2 hg1 hnn; obtain ⟨A2, c2, rfl⟩ := Kd.R_slice HR1; have hb1 := blk_grown h1 hg1 (R_ne_blk H2.out h1 (by decide)); have hc2 := blk_cell hb1 0; have hf2 := blk_frozen hb1 0; have HR2 := Aside0.mk HR1; have HG2 := Aside0.mk hg1; have HB3 := Aside0.mk HB2; have HBX := Aside0.mk hb1; clear HR1 hg1 HB2 hnn hb1)
   refine ⟨rfl, (HO1.out.trans (keepsOthers_R H2.out HG2.out)).trans (KeepsOthers.setCell _ _ _), HB3.out.setCell (p := ⟨w.heap.size, 0, none⟩) (Nat.le_refl _) _, ?_, _, blk_set HBX.out 0 _, ?_⟩
   ·exact ((Below.heap_setCell _ _ _ _ (by simp)).trans ((HG2.out.block _ (blk_lt H3.out) (R_ne_blk H2.out H3.out (by decide))))).trans H31.out
   ·rw [HRS.out]; exact Kd.R_set HR2.out HBX.out (by decide) _ _
  ·obtain ⟨g, hA⟩ : ∃ g, A = some ⟨g, 0, none⟩ := by
    obtain ⟨inner, ho⟩ := Kd.R_own h2
    obtain ⟨g, cap, hv, _⟩ := ho.form (by omega)
    injection hv with hv1
    exact ⟨g, hv1⟩
   subst hA
   obtain ⟨i, hi⟩ : ∃ i : Int, (out.length : Int) - 1 = i := ⟨_, rfl⟩
   have hi0 : 0 ≤ i := by omega
   have hi1 : i < (out.length : Int) := by omega
   obtain ⟨ad, hAd, e0, e1, e2⟩ := at_T109 (Kd.R_reads' h2).2.2 i hi0 hi1
   cases hAd
   simp only [add_plain] at e0 e1 e2
   obtain ⟨cells, hgc⟩ := R_cells h2 g (by simp [Value.ownBlock])
   have hfg := blk_frozen hgc (i.toNat * 3 + 1)
   by_cases hk : (rd_T109 out i).f1 = kd
   ·have hrs : runStep out (xp, xr, xw, xb) = out.set i.toNat ⟨⟨(rd_T109 out i).f0.f0, wrap64 (xp + xw)⟩, (rd_T109 out i).f1⟩ := by
     unfold runStep
     rw [hkd, hi, if_pos ⟨by omega, hk⟩]
    have hseg := Kd.R_seg (x' := ⟨⟨(rd_T109 out i).f0.f0, wrap64 (xp + xw)⟩, (rd_T109 out i).f1⟩) (okp := fun _ => False) h2 i hi0 hi1 (c := [.int .i64 (rd_T109 out i).f0.f0, .int .i64 (rd_T109 out i).f0.f1, .int .i64 (rd_T109 out i).f1]) (seg := [.int .i64 (wrap64 (xp + xw))]) (j := 1) rfl
     (fun j u hu => by
      match j, hu with
      | 0, hu => rw [← hu]; exact e0
      | 1, hu => rw [← hu]; exact e1
      | 2, hu => rw [← hu]; exact e2
      | j + 3, hu => simp at hu) (by show 1 + 1 ≤ 3; decide) (k109_mkM _ _ _ ⟨⟨(rd_T109 out i).f0.f0, wrap64 (xp + xw)⟩, (rd_T109 out i).f1⟩) (fun _ h => h.elim)
    have HSEG := Aside0.mk hseg
    have HRS := Aside0.mk hrs
    have H2 := Aside0.mk h2
    have hkb : (((rd_T109 out i).f1 == kd) = true) := by simpa using hk
    have H3 := Aside0.mk h3
    have H1 := Aside0.mk h1
    have hig : decide (0 ≤ i) = true := by simpa using hi0
    replace hi0 := eq_true hi0
    replace hi1 := eq_true hi1
    have NE := Aside0.mk (R_ne_blk h2 h1 (by decide))
    have NE3 := Aside0.mk (R_ne_blk h2 h3 (by decide))
    have HBG := Aside0.mk (Kd.R_base h2 g (by simp [Value.ownBlock]))
    clear h2 hrs h0 hkd hk h3 h1 hseg
    gi_wp2
    refine ⟨rfl, HO1.out.trans (KeepsOthers.setCell _ _ _), HB1.out.setCell (p := ⟨g, _, none⟩) HBG.out _, ?_, _, blk_far H1.out (fun e => NE.out (by simp [Value.ownBlock, e])) _, ?_⟩
    ·exact (Below.heap_setCell _ _ _ _ (fun e => NE3.out (by simp [Value.ownBlock, e]))).trans H31.out
    ·rw [HRS.out]; exact HSEG.out.1
   ·have hrs : runStep out (xp, xr, xw, xb) = out ++ [⟨⟨xp, wrap64 (xp + xw)⟩, kd⟩] := by
     unfold runStep
     rw [hkd, hi, if_neg (fun h => hk h.2)]
    have HRS := Aside0.mk hrs
    have H2 := Aside0.mk h2
    have hkb : (((rd_T109 out i).f1 == kd) = false) := by simpa using hk
    have HLEN := Aside0.mk (show (out.length + 1) * 24 ≤ 140737488355328 by omega)
    have H3 := Aside0.mk h3
    have hig : decide (0 ≤ i) = true := by simpa using hi0
    replace hi0 := eq_true hi0
    replace hi1 := eq_true hi1
    clear h2 hrs h0 hkd hk h3
    gi_wp2_with (gi_at_builtin; refine R_appendIn k109 (w0 := W) w.heap.size rfl (.tmp 37) (.tmp 46) 110 109 (.agg #[.int .i64 0, .int .i64 0, .int .i64 0]) 24 rfl Tryd.underlying110 info109 rfl (by decide) (by decide) (.slice (some ⟨g, 0, none⟩) out.length cp) out ⟨⟨xp, wrap64 (xp + xw)⟩, kd⟩ [.int .i64 xp, .int .i64 (wrap64 (xp + xw)), .int .i64 kd] (fun _ => True) (fun _ => False) rfl rfl (k109_mkM _ _ _ ⟨⟨xp, wrap64 (xp + xw)⟩, kd⟩) (fun _ hk => hk.elim) (fun _ _ => trivial) H2.out HB1.out hBk HLEN.out ?_; intro v1 w1 HR1 HB2 hg1 hnn; obtain ⟨A2, c2, rfl⟩ := Kd.R_slice HR1; rw [List.length_append, List.length_singleton] at HR1; have hb1 := blk_grown h1 hg1 (R_ne_blk H2.out h1 (by decide)); have hc2 := blk_cell hb1 0; have hf2 := blk_frozen hb1 0; have HR2 := Aside0.mk HR1; have HG2 := Aside0.mk hg1; have HB3 := Aside0.mk HB2; have HBX := Aside0.mk hb1; clear HR1 hg1 HB2 hnn hb1)
    refine ⟨rfl, (HO1.out.trans (keepsOthers_R H2.out HG2.out)).trans (KeepsOthers.setCell _ _ _), HB3.out.setCell (p := ⟨w.heap.size, 0, none⟩) (Nat.le_refl _) _, ?_, _, blk_set HBX.out 0 _, ?_⟩
    ·exact ((Below.heap_setCell _ _ _ _ (by simp)).trans ((HG2.out.block _ (blk_lt H3.out) (R_ne_blk H2.out H3.out (by decide))))).trans H31.out
    ·rw [HRS.out]; exact Kd.R_set HR2.out HBX.out (by decide) _ _
 case done =>
  rintro D zs W hD rfl ⟨hB, v, h1, h2, h3⟩ hK
  have hc1 := blk_cell h1 0
  gi_wp2
  refine ⟨by simp, .inl ⟨_, _, rfl, run_takeDeferred hK, ?_⟩⟩
  exact ⟨_, results_tmp rfl _ _ _, v, rfl, R_abides h2 (grownBy_putObj' W D _) (fun r e => by cases e; exact ⟨_, hK, rfl⟩), hB.trans (belowK_b (w := w) (Nat.le_refl _) W D _ _ (by omega) hK rfl rfl)⟩
 case stop =>
  rintro D c pre W _ _ h _
  exact h.elim

theorem words_runs.calls (A0 : Option Addr) (c0 : Nat) (l0 : List Int) (r : List S109) (w : World) (hr0 : Kd.C (Kd.int .u8) w A0 l0.length l0) (hc0 : l0.length ≤ c0) (hL : LaidBad w) (h : words_runs.f l0 = some r) :
  Calls Tryd.prog 52 #[.slice A0 l0.length c0] w fun e w' => ∃ v0_ : Value, e = .returned (v0_) ∧ Kd.R k109 109 w' w.heap.size (fun _ => True) v0_ r ∧ Below w.heap.size w w' := by
 unfold words_runs.f at h
 by_cases hl : l0.length ≤ 4398046511104
 ·rw [if_pos hl] at h
  cases h
  exact callsIn_wide.1 (words_runs.walk A0 c0 l0 w hr0 hc0 hL hl)
 ·rw [if_neg hl] at h
  cases h

end Go.Proofs.YtijbkiajhicooabDoor.PW

namespace Go.Proofs.YtijbkiajhicooabDoor.PW
open Go.RowKit Go.Proofs.YtijbkiajhicooabDoorW.PrintWords Go.Proofs.YtijbkiajhicooabDoorW.PrintLast Go.Proofs.YtijbkiajhicooabDoorW.PrintMore
attribute [local go_sem] max2_int min2_int max_two min_two max_three min_three max_four min_four   -- for this text's walks alone
set_option linter.unusedVariables false
set_option linter.unusedSimpArgs false

def words_Around.l0 : Nat → Int → List (S109) → Int → Int → Int → Int → Int → Option (Int × Int × Int × Int)
 | 0, _, _, _, _, _, _, _ => none
 | k + 1, x1, x15, x16, x17, x126000, x126001, x126002 => if x17 < x16 then (if 0 ≤ x17 then (if x17 < (x15.length : Int) then (if x1 < ((rd_T109 x15 x17).f0.f1) then (some ((rd_T109 x15 x17).f0.f0, (rd_T109 x15 x17).f0.f1, (rd_T109 x15 x17).f1, 0)) else (words_Around.l0 k x1 x15 x16 (wrap64 (x17 + 1)) ((rd_T109 x15 x17).f0.f0) ((rd_T109 x15 x17).f0.f1) ((rd_T109 x15 x17).f1))) else (none)) else (none)) else (some (x126000, x126001, x126002, 0))
def words_Around.f (k : Nat) (l0 : List Int) (a1 : Int) : Option (Int × Int × Int × Int) := (words_outside.f l0 a1).bind fun t124 => (if t124 = true then (some (0, 0, 0, 2)) else ((words_runs.f l0).bind fun t126 => (words_Around.l0 k a1 t126 (t126.length : Int) 0 0 0 0)))
set_option maxHeartbeats 8000000 in
set_option maxRecDepth 100000 in
theorem words_Around.calls (k : Nat) (A0 : Option Addr) (c0 : Nat) (l0 : List Int) (a1 : Int) (r1 : Int) (r2 : Int) (r3 : Int) (r4 : Int) (w : World) (hr0 : Kd.C (Kd.int .u8) w A0 l0.length l0) (hc0 : l0.length ≤ c0) (hL : LaidBad w) (h : words_Around.f k l0 a1 = some (r1, r2, r3, r4)) :
  Calls Tryd.prog 20 #[.slice A0 l0.length c0, .int .i64 a1] w fun e w' => e = .returned (.tuple #[.agg #[.int .i64 r1, .int .i64 r2], .int .i64 r3, .int .i64 r4]) ∧ Below w.heap.size w w' := by
 have hu44 := Tryd.underlying44
 have hu109 := Tryd.underlying109
 have HR0 := Aside0.mk hr0
 have HC0 := Aside0.mk hc0
 clear hr0 hc0
 have HB := Aside0.mk (Below.refl w.heap.size w)
 have HLB := Aside0.mk hL
 clear hL
 have H : ((words_outside.f l0 a1).bind fun t124 => (if t124 = true then (some (0, 0, 0, 2)) else ((words_runs.f l0).bind fun t126 => (words_Around.l0 k a1 t126 (t126.length : Int) 0 0 0 0)))) = some (r1, r2, r3, r4) := h
 clear h
 replace H := Option.bind_eq_some_iff.mp H
 obtain ⟨t124, A30, H⟩ := H
 replace H : (if t124 = true then (some (0, 0, 0, 2)) else ((words_runs.f l0).bind fun t126 => (words_Around.l0 k a1 t126 (t126.length : Int) 0 0 0 0))) = some (r1, r2, r3, r4) := H
 have A3 := Aside0.mk A30
 clear A30
 by_cases c4 : t124 = true
 ·subst c4
  have H1 : (some (0, 0, 0, 2)) = some (r1, r2, r3, r4) := by rw [if_pos rfl] at H; exact H
  clear H
  have H := H1
  clear H1
  simp only [Option.some.injEq, Prod.mk.injEq] at H
  obtain ⟨rfl, rfl, rfl, rfl⟩ := H
  go_enter Tryd.func20, Tryd.ntmps20
  go_wp2_with (first | ((with_reducible refine gate_dst (N := 4) rfl ?_); refine box_event ?hg (N := 4) ?hd (cs := #[.int .i64 0, .int .i64 0]) (t := 44) ?hr ?_; (case hd => rfl); (case hg => rfl); (case hr => first | (go_simp; done) | (go_simp; rfl)); intro gb123 hg w5 hbox hb; have n0_ := Aside0.mk (below_step (by repeat (first | (with_reducible first | exact HB.out | apply below_alloc | apply pw_below_drewN | apply below_drew1) | exact HB.out)) hb); have n1_ := Aside0.mk (hbox); have n2_ := Aside0.mk ((by rw [hg]; exact (below_size (by repeat (first | (with_reducible first | exact HB.out | apply below_alloc | apply pw_below_drewN | apply below_drew1) | exact HB.out))) : w.heap.size ≤ gb123)); have n3_ := Aside0.mk ((by rw [hg]; exact (below_size (by repeat (first | (with_reducible first | exact HB.out | apply below_alloc | apply pw_below_drewN | apply below_drew1) | exact HB.out))) : w.heap.size ≤ gb123)); clear HB; have HB := n0_; have BK123 := n1_; have GW123 := n2_; have GE123 := n3_; clear n0_ n1_ n2_ n3_; clear hb hbox hg) | ((with_reducible refine gate_callee (f := 51) rfl ?_); refine goesL_ (some 12) rfl rfl Tryd.func51 (by kernel_rfl) rfl #[.slice A0 l0.length c0, .int .i64 a1] rfl (by (try simp only [List.map_toArray, List.map_cons, List.map_nil]); first | done | rfl | (simp only [List.length_drop, List.length_take]; rfl)) ?_; (with_reducible refine (words_outside.calls _ _ l0 a1 true _ ?side1 ?side2 A3.out).mono ?_); (case side1 => repeat (first | exact (Kd.C_below HR0.out HB.out) | (with_reducible refine Kd.C_alloc ?_ _) | (with_reducible refine Kd.C_drewN ?_ _) | (with_reducible refine Kd.C_drew ?_))); (case side2 => exact HC0.out); rintro e w' ⟨rfl, ⟨nd, rfl⟩⟩; refine ⟨_, rfl, ?_⟩; (try (rw [drewN_self w5]; generalize hq_ : World.drewN w5 _ = w5; have n0_ : Aside0 (w5.heap[gb123]? = some (.cells #[.int .i64 0, .int .i64 0] 44 (0, 0))) := ⟨by rw [← hq_]; exact (by (with_reducible repeat (first | refine blk_drewN ?_ _ | refine blk_drew ?_ | refine blk_alloc ?_ _)); exact BK123.out)⟩; have n1_ : Aside0 (Below w.heap.size w w5) := ⟨by rw [← hq_]; exact (by repeat (first | (with_reducible first | exact HB.out | apply below_alloc | apply pw_below_drewN | apply below_drew1 | refine below_set ?_ GE123.out) | exact HB.out))⟩; clear BK123 HB hq_; have BK123 := n0_; have HB := n1_; clear n0_ n1_)); have hcz6_0 : w5.cell? ⟨gb123, 0, none⟩ = some (.int .i64 0) := (blk_cell BK123.out 0).trans rfl; have hcz6_1 : w5.cell? ⟨gb123, 1, none⟩ = some (.int .i64 0) := (blk_cell BK123.out 1).trans rfl; have hfz6_0 := blk_frozen BK123.out 0; have hfz6_1 := blk_frozen BK123.out 1))
  refine bodyPost_ret (results_ctt rfl _ _ gb123 44 #[.int .i64 0, .int .i64 0] (0, 0) _ rfl (by (with_reducible repeat (first | refine blk_drewN ?_ _ | refine blk_drew ?_ | refine blk_alloc ?_ _)); refine blk_put (cs := #[.int .i64 0, .int .i64 0]) ?_ 1 _ rfl; (with_reducible repeat (first | refine blk_drewN ?_ _ | refine blk_drew ?_ | refine blk_alloc ?_ _)); refine blk_put (cs := #[.int .i64 0, .int .i64 0]) ?_ 0 _ rfl; (with_reducible repeat (first | refine blk_drewN ?_ _ | refine blk_drew ?_ | refine blk_alloc ?_ _)); exact BK123.out) Tryd.underlying44 rfl (by kernel_rfl)) rfl ?_
  exact ⟨by first | rfl | (simp [errW_none, errW_some] <;> rfl) | (simp [*, errW_none, errW_some] <;> rfl), by repeat (first | (with_reducible first | exact HB.out | apply below_alloc | apply pw_below_drewN | apply below_drew1 | refine below_set ?_ GE123.out) | exact HB.out)⟩
 ·replace c4 := Bool.eq_false_iff.mpr c4
  subst c4
  have H1 : ((words_runs.f l0).bind fun t126 => (words_Around.l0 k a1 t126 (t126.length : Int) 0 0 0 0)) = some (r1, r2, r3, r4) := by rw [if_neg (show ¬ (false = true) by decide)] at H; exact H
  clear H
  have H := H1
  clear H1
  replace H := Option.bind_eq_some_iff.mp H
  obtain ⟨t126, A70, H⟩ := H
  replace H : (words_Around.l0 k a1 t126 (t126.length : Int) 0 0 0 0) = some (r1, r2, r3, r4) := H
  have A7 := Aside0.mk A70
  clear A70
  have H' := Aside0.mk H
  clear H
  go_enter Tryd.func20, Tryd.ntmps20
  go_wp2_with (first | ((with_reducible refine gate_dst (N := 4) rfl ?_); refine box_event ?hg (N := 4) ?hd (cs := #[.int .i64 0, .int .i64 0]) (t := 44) ?hr ?_; (case hd => rfl); (case hg => rfl); (case hr => first | (go_simp; done) | (go_simp; rfl)); intro gb123 hg w8 hbox hb; have n0_ := Aside0.mk (below_step (by repeat (first | (with_reducible first | exact HB.out | apply below_alloc | apply pw_below_drewN | apply below_drew1) | exact HB.out)) hb); have n1_ := Aside0.mk (hbox); have n2_ := Aside0.mk ((by rw [hg]; exact (below_size (by repeat (first | (with_reducible first | exact HB.out | apply below_alloc | apply pw_below_drewN | apply below_drew1) | exact HB.out))) : w.heap.size ≤ gb123)); have n3_ := Aside0.mk ((by rw [hg]; exact (below_size (by repeat (first | (with_reducible first | exact HB.out | apply below_alloc | apply pw_below_drewN | apply below_drew1) | exact HB.out))) : w.heap.size ≤ gb123)); clear HB; have HB := n0_; have BK123 := n1_; have GW123 := n2_; have GE123 := n3_; clear n0_ n1_ n2_ n3_; clear hb hbox hg) | ((with_reducible refine gate_callee (f := 51) rfl ?_); refine goesL_ (some 12) rfl rfl Tryd.func51 (by kernel_rfl) rfl #[.slice A0 l0.length c0, .int .i64 a1] rfl (by (try simp only [List.map_toArray, List.map_cons, List.map_nil]); first | done | rfl | (simp only [List.length_drop, List.length_take]; rfl)) ?_; (with_reducible refine (words_outside.calls _ _ l0 a1 false _ ?side1 ?side2 A3.out).mono ?_); (case side1 => repeat (first | exact (Kd.C_below HR0.out HB.out) | (with_reducible refine Kd.C_alloc ?_ _) | (with_reducible refine Kd.C_drewN ?_ _) | (with_reducible refine Kd.C_drew ?_))); (case side2 => exact HC0.out); rintro e w' ⟨rfl, ⟨nd, rfl⟩⟩; refine ⟨_, rfl, ?_⟩) | ((with_reducible refine gate_dst (N := 7) rfl ?_); refine box_event ?hg (N := 7) ?hd (cs := #[.int .i64 0, .int .i64 0, .int .i64 0]) (t := 109) ?hr ?_; (case hd => rfl); (case hg => rfl); (case hr => first | (go_simp; done) | (go_simp; rfl)); intro gb125 hg w9 hbox hb; have n0_ := Aside0.mk (blk_below (g := gb123) (o := .cells #[.int .i64 0, .int .i64 0] 44 (0, 0)) (by (with_reducible repeat (first | refine blk_drewN ?_ _ | refine blk_drew ?_ | refine blk_alloc ?_ _)); exact BK123.out) hb); have n1_ := Aside0.mk (below_step (by repeat (first | (with_reducible first | exact HB.out | apply below_alloc | apply pw_below_drewN | apply below_drew1 | refine below_set ?_ GE123.out) | exact HB.out)) hb); have n2_ := Aside0.mk (hbox); have n3_ := Aside0.mk ((by rw [hg]; exact (below_size (by repeat (first | (with_reducible first | exact HB.out | apply below_alloc | apply pw_below_drewN | apply below_drew1 | refine below_set ?_ GE123.out) | exact HB.out))) : w.heap.size ≤ gb125)); have n4_ := Aside0.mk ((by rw [hg]; exact (below_size (by repeat (first | (with_reducible first | exact HB.out | apply below_alloc | apply pw_below_drewN | apply below_drew1 | refine below_set ?_ GE123.out) | exact HB.out))) : w.heap.size ≤ gb125)); have n5_ := Aside0.mk ((by rw [hg]; exact Nat.ne_of_lt (blk_lt (g := gb123) (o := .cells #[.int .i64 0, .int .i64 0] 44 (0, 0)) (by (with_reducible repeat (first | refine blk_drewN ?_ _ | refine blk_drew ?_ | refine blk_alloc ?_ _)); exact BK123.out)) : gb123 ≠ gb125)); have n6_ := Aside0.mk ((by rw [hg]; exact Nat.ne_of_gt (blk_lt (g := gb123) (o := .cells #[.int .i64 0, .int .i64 0] 44 (0, 0)) (by (with_reducible repeat (first | refine blk_drewN ?_ _ | refine blk_drew ?_ | refine blk_alloc ?_ _)); exact BK123.out)) : gb125 ≠ gb123)); clear BK123; clear HB; have BK123 := n0_; have HB := n1_; have BK125 := n2_; have GW125 := n3_; have GE125 := n4_; have NB123_125 := n5_; have NB125_123 := n6_; clear n0_ n1_ n2_ n3_ n4_ n5_ n6_; clear hb hbox hg) | ((with_reducible refine gate_callee (f := 52) rfl ?_); refine goesL_ (some 15) rfl rfl Tryd.func52 (by kernel_rfl) rfl #[.slice A0 l0.length c0] rfl (by (try simp only [List.map_toArray, List.map_cons, List.map_nil]); first | done | rfl | (simp only [List.length_drop, List.length_take]; rfl)) ?_; (with_reducible refine (words_runs.calls _ _ l0 t126 _ ?side1 ?side2 ?side3 A7.out).mono ?_); (case side1 => repeat (first | exact (Kd.C_below HR0.out HB.out) | (with_reducible refine Kd.C_alloc ?_ _) | (with_reducible refine Kd.C_drewN ?_ _) | (with_reducible refine Kd.C_drew ?_))); (case side2 => exact HC0.out); (case side3 => exact laid_below HLB.out (by repeat (first | (with_reducible first | exact HB.out | apply below_alloc | apply pw_below_drewN | apply below_drew1 | refine below_set ?_ GE123.out | refine below_set ?_ GE125.out) | exact HB.out))); rintro e w10 ⟨v127, rfl, ho0, hb⟩; refine ⟨_, rfl, ?_⟩; have n0_ := Aside0.mk (Kd.R_lower (Kd.R_newB ho0 (g := gb125) (o := .cells #[.int .i64 0, .int .i64 0, .int .i64 0] 109 (0, 0)) (by (with_reducible repeat (first | refine blk_drewN ?_ _ | refine blk_drew ?_ | refine blk_alloc ?_ _)); exact BK125.out)) (below_size (by repeat (first | (with_reducible first | exact HB.out | apply below_alloc | apply pw_below_drewN | apply below_drew1 | refine below_set ?_ GE123.out | refine below_set ?_ GE125.out) | exact HB.out)))); have n1_ := Aside0.mk (blk_below (g := gb123) (o := .cells #[.int .i64 0, .int .i64 0] 44 (0, 0)) (by (with_reducible repeat (first | refine blk_drewN ?_ _ | refine blk_drew ?_ | refine blk_alloc ?_ _)); exact BK123.out) hb); have n2_ := Aside0.mk (blk_below (g := gb125) (o := .cells #[.int .i64 0, .int .i64 0, .int .i64 0] 109 (0, 0)) (by (with_reducible repeat (first | refine blk_drewN ?_ _ | refine blk_drew ?_ | refine blk_alloc ?_ _)); exact BK125.out) hb); have n3_ := Aside0.mk (below_step (by repeat (first | (with_reducible first | exact HB.out | apply below_alloc | apply pw_below_drewN | apply below_drew1 | refine below_set ?_ GE123.out | refine below_set ?_ GE125.out) | exact HB.out)) hb); clear BK123; clear BK125; clear HB; have HO128 := n0_; have BK123 := n1_; have BK125 := n2_; have HB := n3_; clear n0_ n1_ n2_ n3_; (try clear hb); (try clear hb2); (try clear hk); (try clear hi); (try clear ho0); obtain ⟨Ao11, co11, eo11⟩ := Kd.R_slice HO128.out; subst eo11))
  go_loopg [17] k (fun kq v17 w' => ∃ (x17_1 : Int) (x126000_1 : Int) (x126001_1 : Int) (x126002_1 : Int), v17 = .int .i64 x17_1 ∧ Aside0 (words_Around.l0 kq a1 t126 (t126.length : Int) x17_1 x126000_1 x126001_1 x126002_1 = some (r1, r2, r3, r4)) ∧ Aside0 (kq ≤ k) ∧ Aside0 (Kd.R k109 109 w' w.heap.size (fun k_ => k_ ≠ gb125) (.slice Ao11 t126.length co11) t126) ∧ Aside0 (w'.heap[gb123]? = some (.cells #[.int .i64 0, .int .i64 0] 44 (0, 0))) ∧ Aside0 (w'.heap[gb125]? = some (.cells #[.int .i64 x126000_1, .int .i64 x126001_1, .int .i64 x126002_1] 109 (0, 0))) ∧ Aside0 (Below w.heap.size w w'))
  case atStart => exact ⟨(0), (0), (0), (0), (by first | rfl | (simp; done) | (simp [*]; done)), H', ⟨Nat.le_refl _⟩, ⟨by (with_reducible repeat (first | apply Kd.R_alloc | apply Kd.R_drewN | apply Kd.R_drew)); exact Kd.R_mono HO128.out (fun _ hk => hk.2)⟩, ⟨by (with_reducible repeat (first | refine blk_drewN ?_ _ | refine blk_drew ?_ | refine blk_alloc ?_ _)); exact BK123.out⟩, ⟨by (with_reducible repeat (first | refine blk_drewN ?_ _ | refine blk_drew ?_ | refine blk_alloc ?_ _)); exact BK125.out⟩, ⟨by repeat (first | (with_reducible first | exact HB.out | apply below_alloc | apply pw_below_drewN | apply below_drew1 | refine below_set ?_ GE123.out | refine below_set ?_ GE125.out) | exact HB.out)⟩⟩
  case round =>
   clear H'
   try clear c2
   try clear p2
   try clear c4
   try clear c5
   try clear hcz6_0
   try clear hcz6_1
   try clear hfz6_0
   try clear hfz6_1
   obtain ⟨x17_1, x126000_1, x126001_1, x126002_1, rfl, HA, HK1, HO_15, BK123, BK125, HB⟩ := hrel
   cases gk with
   | zero => exact absurd HA.out (by simp [words_Around.l0])
   | succ k1 =>
    have H := HA.out
    clear HA
    simp only [words_Around.l0] at H
    by_cases c12 : x17_1 < (t126.length : Int)
    ·rw [if_pos c12] at H
     have c12b0 : decide (x17_1 < (t126.length : Int)) = true := decide_eq_true c12
     clear c12
     by_cases c13 : 0 ≤ x17_1
     ·rw [if_pos c13] at H
      have c13b0 : decide (0 ≤ x17_1) = true := decide_eq_true c13
      clear c13
      by_cases c14 : x17_1 < (t126.length : Int)
      ·rw [if_pos c14] at H
       have c14b0 : decide (x17_1 < (t126.length : Int)) = true := decide_eq_true c14
       clear c14
       by_cases c15 : a1 < ((rd_T109 t126 x17_1).f0.f1)
       ·rw [if_pos c15] at H
        have c15b0 : decide (a1 < ((rd_T109 t126 x17_1).f0.f1)) = true := decide_eq_true c15
        clear c15
        simp only [Option.some.injEq, Prod.mk.injEq] at H
        obtain ⟨rfl, rfl, rfl, rfl⟩ := H
        have p129 : 0 ≤ (x17_1 : Int) := of_decide_eq_true (by first | (with_reducible assumption) | assumption)
        have q129 : x17_1 < (t126.length : Int) := of_decide_eq_true (by first | (with_reducible assumption) | assumption)
        obtain ⟨ad129, e129, hx129_0, hx129_1, hx129_2⟩ := at_T109 (Kd.R_reads' HO_15.out).2.2 x17_1 p129 q129
        cases e129
        replace p129 := eq_true p129
        replace q129 := eq_true q129
        try go_wp2_with (first | ((with_reducible refine gate_dst (N := 9) rfl ?_); refine box_event ?hg (N := 9) ?hd (cs := #[.int .i64 0, .int .i64 0, .int .i64 0]) (t := 109) ?hr ?_; (case hd => rfl); (case hg => rfl); (case hr => first | (go_simp; done) | (go_simp; rfl)); intro gb130 hg w16 hbox hb; have n0_ := Aside0.mk (Kd.R_below (Kd.R_elderB (by (with_reducible repeat (first | apply Kd.R_alloc | apply Kd.R_drewN | apply Kd.R_drew)); exact HO_15.out) gb130 (Nat.le_of_eq hg.symm)) hb); have n1_ := Aside0.mk (blk_below (g := gb123) (o := .cells #[.int .i64 0, .int .i64 0] 44 (0, 0)) (by (with_reducible repeat (first | refine blk_drewN ?_ _ | refine blk_drew ?_ | refine blk_alloc ?_ _)); exact BK123.out) hb); have n2_ := Aside0.mk (blk_below (g := gb125) (o := .cells #[.int .i64 x126000_1, .int .i64 x126001_1, .int .i64 x126002_1] 109 (0, 0)) (by (with_reducible repeat (first | refine blk_drewN ?_ _ | refine blk_drew ?_ | refine blk_alloc ?_ _)); exact BK125.out) hb); have n3_ := Aside0.mk (below_step (by repeat (first | (with_reducible first | exact HB.out | apply below_alloc | apply pw_below_drewN | apply below_drew1 | refine below_set ?_ GE123.out | refine below_set ?_ GE125.out) | exact HB.out)) hb); have n4_ := Aside0.mk (hbox); have n5_ := Aside0.mk ((by rw [hg]; exact (below_size (by repeat (first | (with_reducible first | exact HB.out | apply below_alloc | apply pw_below_drewN | apply below_drew1 | refine below_set ?_ GE123.out | refine below_set ?_ GE125.out) | exact HB.out))) : w.heap.size ≤ gb130)); have n6_ := Aside0.mk ((by rw [hg]; exact (below_size (by repeat (first | (with_reducible first | exact HB.out | apply below_alloc | apply pw_below_drewN | apply below_drew1 | refine below_set ?_ GE123.out | refine below_set ?_ GE125.out) | exact HB.out))) : w.heap.size ≤ gb130)); have n7_ := Aside0.mk ((by rw [hg]; exact Nat.ne_of_lt (blk_lt (g := gb123) (o := .cells #[.int .i64 0, .int .i64 0] 44 (0, 0)) (by (with_reducible repeat (first | refine blk_drewN ?_ _ | refine blk_drew ?_ | refine blk_alloc ?_ _)); exact BK123.out)) : gb123 ≠ gb130)); have n8_ := Aside0.mk ((by rw [hg]; exact Nat.ne_of_gt (blk_lt (g := gb123) (o := .cells #[.int .i64 0, .int .i64 0] 44 (0, 0)) (by (with_reducible repeat (first | refine blk_drewN ?_ _ | refine blk_drew ?_ | refine blk_alloc ?_ _)); exact BK123.out)) : gb130 ≠ gb123)); have n9_ := Aside0.mk ((by rw [hg]; exact Nat.ne_of_lt (blk_lt (g := gb125) (o := .cells #[.int .i64 x126000_1, .int .i64 x126001_1, .int .i64 x126002_1] 109 (0, 0)) (by (with_reducible repeat (first | refine blk_drewN ?_ _ | refine blk_drew ?_ | refine blk_alloc ?_ _)); exact BK125.out)) : gb125 ≠ gb130)); have n10_ := Aside0.mk ((by rw [hg]; exact Nat.ne_of_gt (blk_lt (g := gb125) (o := .cells #[.int .i64 x126000_1, .int .i64 x126001_1, .int .i64 x126002_1] 109 (0, 0)) (by (with_reducible repeat (first | refine blk_drewN ?_ _ | refine blk_drew ?_ | refine blk_alloc ?_ _)); exact BK125.out)) : gb130 ≠ gb125)); clear HO_15; clear BK123; clear BK125; clear HB; have HO_15 := n0_; have BK123 := n1_; have BK125 := n2_; have HB := n3_; have BK130 := n4_; have GW130 := n5_; have GE130 := n6_; have NB123_130 := n7_; have NB130_123 := n8_; have NB125_130 := n9_; have NB130_125 := n10_; clear n0_ n1_ n2_ n3_ n4_ n5_ n6_ n7_ n8_ n9_ n10_; clear hb hbox hg; have hnb17 := NB130_123.out; have hnc17 := NB123_130.out; have hnb18 := NB130_125.out; have hnc18 := NB125_130.out; have hcz19_0 : w16.cell? ⟨gb130, 0, none⟩ = some (.int .i64 0) := (blk_cell BK130.out 0).trans rfl; have hcz19_1 : w16.cell? ⟨gb130, 1, none⟩ = some (.int .i64 0) := (blk_cell BK130.out 1).trans rfl; have hcz19_2 : w16.cell? ⟨gb130, 2, none⟩ = some (.int .i64 0) := (blk_cell BK130.out 2).trans rfl; have hfz19_0 := blk_frozen BK130.out 0; have hfz19_1 := blk_frozen BK130.out 1; have hfz19_2 := blk_frozen BK130.out 2; have hnb20 := NB125_123.out; have hnc20 := NB123_125.out; have hcz21_0 : w16.cell? ⟨gb125, 0, none⟩ = some (.int .i64 x126000_1) := (blk_cell BK125.out 0).trans rfl; have hcz21_1 : w16.cell? ⟨gb125, 1, none⟩ = some (.int .i64 x126001_1) := (blk_cell BK125.out 1).trans rfl; have hcz21_2 : w16.cell? ⟨gb125, 2, none⟩ = some (.int .i64 x126002_1) := (blk_cell BK125.out 2).trans rfl; have hfz21_0 := blk_frozen BK125.out 0; have hfz21_1 := blk_frozen BK125.out 1; have hfz21_2 := blk_frozen BK125.out 2))
        have n0_ : Aside0 (Kd.R k109 109 ((((((w16.setCell ⟨gb130, 0, none⟩ (.int .i64 ((rd_T109 t126 x17_1).f0.f0))).setCell ⟨gb130, 1, none⟩ (.int .i64 ((rd_T109 t126 x17_1).f0.f1))).setCell ⟨gb130, 2, none⟩ (.int .i64 ((rd_T109 t126 x17_1).f1))).setCell ⟨gb125, 0, none⟩ (.int .i64 ((rd_T109 t126 x17_1).f0.f0))).setCell ⟨gb125, 1, none⟩ (.int .i64 ((rd_T109 t126 x17_1).f0.f1))).setCell ⟨gb125, 2, none⟩ (.int .i64 ((rd_T109 t126 x17_1).f1))) w.heap.size (fun k_ => k_ ≠ gb125 ∧ k_ ≠ gb130) (.slice (some ad129) t126.length co11) t126) := ⟨by (with_reducible repeat (first | apply Kd.R_alloc | apply Kd.R_drewN | apply Kd.R_drew)); exact Kd.R_mono (Kd.R_far (p := ⟨gb125, 2, none⟩) (Kd.R_far (p := ⟨gb125, 1, none⟩) (Kd.R_far (p := ⟨gb125, 0, none⟩) (Kd.R_far (p := ⟨gb130, 2, none⟩) (Kd.R_far (p := ⟨gb130, 1, none⟩) (Kd.R_far (p := ⟨gb130, 0, none⟩) (Kd.R_mono (Kd.R_mono HO_15.out (fun k_ hk => (⟨hk, hk.2⟩ : _ ∧ k_ ≠ gb130))) (fun k_ hk => (⟨hk, hk.1.1⟩ : _ ∧ k_ ≠ gb125))) (fun _ hk => hk.1.2) (.int .i64 ((rd_T109 t126 x17_1).f0.f0))) (fun _ hk => hk.1.2) (.int .i64 ((rd_T109 t126 x17_1).f0.f1))) (fun _ hk => hk.1.2) (.int .i64 ((rd_T109 t126 x17_1).f1))) (fun _ hk => hk.2) (.int .i64 ((rd_T109 t126 x17_1).f0.f0))) (fun _ hk => hk.2) (.int .i64 ((rd_T109 t126 x17_1).f0.f1))) (fun _ hk => hk.2) (.int .i64 ((rd_T109 t126 x17_1).f1))) (fun _ hk => ⟨hk.1.1.1, hk.1.1.2⟩)⟩
        have n1_ : Aside0 (((((((w16.setCell ⟨gb130, 0, none⟩ (.int .i64 ((rd_T109 t126 x17_1).f0.f0))).setCell ⟨gb130, 1, none⟩ (.int .i64 ((rd_T109 t126 x17_1).f0.f1))).setCell ⟨gb130, 2, none⟩ (.int .i64 ((rd_T109 t126 x17_1).f1))).setCell ⟨gb125, 0, none⟩ (.int .i64 ((rd_T109 t126 x17_1).f0.f0))).setCell ⟨gb125, 1, none⟩ (.int .i64 ((rd_T109 t126 x17_1).f0.f1))).setCell ⟨gb125, 2, none⟩ (.int .i64 ((rd_T109 t126 x17_1).f1))).heap[gb123]? = some (.cells #[.int .i64 0, .int .i64 0] 44 (0, 0))) := ⟨by (with_reducible repeat (first | refine blk_drewN ?_ _ | refine blk_drew ?_ | refine blk_alloc ?_ _)); refine blk_far ?_ NB123_125.out _; (with_reducible repeat (first | refine blk_drewN ?_ _ | refine blk_drew ?_ | refine blk_alloc ?_ _)); refine blk_far ?_ NB123_125.out _; (with_reducible repeat (first | refine blk_drewN ?_ _ | refine blk_drew ?_ | refine blk_alloc ?_ _)); refine blk_far ?_ NB123_125.out _; (with_reducible repeat (first | refine blk_drewN ?_ _ | refine blk_drew ?_ | refine blk_alloc ?_ _)); refine blk_far ?_ NB123_130.out _; (with_reducible repeat (first | refine blk_drewN ?_ _ | refine blk_drew ?_ | refine blk_alloc ?_ _)); refine blk_far ?_ NB123_130.out _; (with_reducible repeat (first | refine blk_drewN ?_ _ | refine blk_drew ?_ | refine blk_alloc ?_ _)); refine blk_far ?_ NB123_130.out _; (with_reducible repeat (first | refine blk_drewN ?_ _ | refine blk_drew ?_ | refine blk_alloc ?_ _)); exact BK123.out⟩
        have n2_ : Aside0 (((((((w16.setCell ⟨gb130, 0, none⟩ (.int .i64 ((rd_T109 t126 x17_1).f0.f0))).setCell ⟨gb130, 1, none⟩ (.int .i64 ((rd_T109 t126 x17_1).f0.f1))).setCell ⟨gb130, 2, none⟩ (.int .i64 ((rd_T109 t126 x17_1).f1))).setCell ⟨gb125, 0, none⟩ (.int .i64 ((rd_T109 t126 x17_1).f0.f0))).setCell ⟨gb125, 1, none⟩ (.int .i64 ((rd_T109 t126 x17_1).f0.f1))).setCell ⟨gb125, 2, none⟩ (.int .i64 ((rd_T109 t126 x17_1).f1))).heap[gb125]? = some (.cells #[.int .i64 ((rd_T109 t126 x17_1).f0.f0), .int .i64 ((rd_T109 t126 x17_1).f0.f1), .int .i64 ((rd_T109 t126 x17_1).f1)] 109 (0, 0))) := ⟨by (with_reducible repeat (first | refine blk_drewN ?_ _ | refine blk_drew ?_ | refine blk_alloc ?_ _)); refine blk_put (cs := #[.int .i64 ((rd_T109 t126 x17_1).f0.f0), .int .i64 ((rd_T109 t126 x17_1).f0.f1), .int .i64 x126002_1]) ?_ 2 _ rfl; (with_reducible repeat (first | refine blk_drewN ?_ _ | refine blk_drew ?_ | refine blk_alloc ?_ _)); refine blk_put (cs := #[.int .i64 ((rd_T109 t126 x17_1).f0.f0), .int .i64 x126001_1, .int .i64 x126002_1]) ?_ 1 _ rfl; (with_reducible repeat (first | refine blk_drewN ?_ _ | refine blk_drew ?_ | refine blk_alloc ?_ _)); refine blk_put (cs := #[.int .i64 x126000_1, .int .i64 x126001_1, .int .i64 x126002_1]) ?_ 0 _ rfl; (with_reducible repeat (first | refine blk_drewN ?_ _ | refine blk_drew ?_ | refine blk_alloc ?_ _)); refine blk_far ?_ NB125_130.out _; (with_reducible repeat (first | refine blk_drewN ?_ _ | refine blk_drew ?_ | refine blk_alloc ?_ _)); refine blk_far ?_ NB125_130.out _; (with_reducible repeat (first | refine blk_drewN ?_ _ | refine blk_drew ?_ | refine blk_alloc ?_ _)); refine blk_far ?_ NB125_130.out _; (with_reducible repeat (first | refine blk_drewN ?_ _ | refine blk_drew ?_ | refine blk_alloc ?_ _)); exact BK125.out⟩
        have n3_ : Aside0 (((((((w16.setCell ⟨gb130, 0, none⟩ (.int .i64 ((rd_T109 t126 x17_1).f0.f0))).setCell ⟨gb130, 1, none⟩ (.int .i64 ((rd_T109 t126 x17_1).f0.f1))).setCell ⟨gb130, 2, none⟩ (.int .i64 ((rd_T109 t126 x17_1).f1))).setCell ⟨gb125, 0, none⟩ (.int .i64 ((rd_T109 t126 x17_1).f0.f0))).setCell ⟨gb125, 1, none⟩ (.int .i64 ((rd_T109 t126 x17_1).f0.f1))).setCell ⟨gb125, 2, none⟩ (.int .i64 ((rd_T109 t126 x17_1).f1))).heap[gb130]? = some (.cells #[.int .i64 ((rd_T109 t126 x17_1).f0.f0), .int .i64 ((rd_T109 t126 x17_1).f0.f1), .int .i64 ((rd_T109 t126 x17_1).f1)] 109 (0, 0))) := ⟨by (with_reducible repeat (first | refine blk_drewN ?_ _ | refine blk_drew ?_ | refine blk_alloc ?_ _)); refine blk_far ?_ NB130_125.out _; (with_reducible repeat (first | refine blk_drewN ?_ _ | refine blk_drew ?_ | refine blk_alloc ?_ _)); refine blk_far ?_ NB130_125.out _; (with_reducible repeat (first | refine blk_drewN ?_ _ | refine blk_drew ?_ | refine blk_alloc ?_ _)); refine blk_far ?_ NB130_125.out _; (with_reducible repeat (first | refine blk_drewN ?_ _ | refine blk_drew ?_ | refine blk_alloc ?_ _)); refine blk_put (cs := #[.int .i64 ((rd_T109 t126 x17_1).f0.f0), .int .i64 ((rd_T109 t126 x17_1).f0.f1), .int .i64 0]) ?_ 2 _ rfl; (with_reducible repeat (first | refine blk_drewN ?_ _ | refine blk_drew ?_ | refine blk_alloc ?_ _)); refine blk_put (cs := #[.int .i64 ((rd_T109 t126 x17_1).f0.f0), .int .i64 0, .int .i64 0]) ?_ 1 _ rfl; (with_reducible repeat (first | refine blk_drewN ?_ _ | refine blk_drew ?_ | refine blk_alloc ?_ _)); refine blk_put (cs := #[.int .i64 0, .int .i64 0, .int .i64 0]) ?_ 0 _ rfl; (with_reducible repeat (first | refine blk_drewN ?_ _ | refine blk_drew ?_ | refine blk_alloc ?_ _)); exact BK130.out⟩
        have n4_ : Aside0 (Below w.heap.size w ((((((w16.setCell ⟨gb130, 0, none⟩ (.int .i64 ((rd_T109 t126 x17_1).f0.f0))).setCell ⟨gb130, 1, none⟩ (.int .i64 ((rd_T109 t126 x17_1).f0.f1))).setCell ⟨gb130, 2, none⟩ (.int .i64 ((rd_T109 t126 x17_1).f1))).setCell ⟨gb125, 0, none⟩ (.int .i64 ((rd_T109 t126 x17_1).f0.f0))).setCell ⟨gb125, 1, none⟩ (.int .i64 ((rd_T109 t126 x17_1).f0.f1))).setCell ⟨gb125, 2, none⟩ (.int .i64 ((rd_T109 t126 x17_1).f1)))) := ⟨by repeat (first | (with_reducible first | exact HB.out | apply below_alloc | apply pw_below_drewN | apply below_drew1 | refine below_set ?_ GE123.out | refine below_set ?_ GE125.out | refine below_set ?_ GE130.out) | exact HB.out)⟩
        (try clear HO_15)
        (try clear BK123)
        (try clear BK125)
        (try clear BK130)
        (try clear HB)
        generalize ((((((w16.setCell ⟨gb130, 0, none⟩ (.int .i64 ((rd_T109 t126 x17_1).f0.f0))).setCell ⟨gb130, 1, none⟩ (.int .i64 ((rd_T109 t126 x17_1).f0.f1))).setCell ⟨gb130, 2, none⟩ (.int .i64 ((rd_T109 t126 x17_1).f1))).setCell ⟨gb125, 0, none⟩ (.int .i64 ((rd_T109 t126 x17_1).f0.f0))).setCell ⟨gb125, 1, none⟩ (.int .i64 ((rd_T109 t126 x17_1).f0.f1))).setCell ⟨gb125, 2, none⟩ (.int .i64 ((rd_T109 t126 x17_1).f1))) = w22 at n0_ n1_ n2_ n3_ n4_ ⊢
        have HO_15 := n0_
        have BK123 := n1_
        have BK125 := n2_
        have BK130 := n3_
        have HB := n4_
        clear n0_ n1_ n2_ n3_ n4_
        have n0_ := Aside0.mk (Kd.R_drew HO_15.out)
        have n1_ := Aside0.mk (blk_drew BK123.out)
        have n2_ := Aside0.mk (blk_drew BK125.out)
        have n3_ := Aside0.mk (blk_drew BK130.out)
        have n4_ := Aside0.mk (below_drew1 HB.out)
        clear HO_15 BK123 BK125 BK130 HB
        have HO_15 := n0_
        have BK123 := n1_
        have BK125 := n2_
        have BK130 := n3_
        have HB := n4_
        clear n0_ n1_ n2_ n3_ n4_
        refine start_ (n := 7) (S := fun w' => w'.cell? ⟨gb125, 0, none⟩ = some (.int .i64 ((rd_T109 t126 x17_1).f0.f0)) ∧ w'.cell? ⟨gb125, 1, none⟩ = some (.int .i64 ((rd_T109 t126 x17_1).f0.f1)) ∧ w'.cell? ⟨gb125, 2, none⟩ = some (.int .i64 ((rd_T109 t126 x17_1).f1))) (ds := []) #[false, false, false, false, false, false, false] (by kernel_rfl) rfl rfl ⟨(blk_cell BK125.out 0).trans rfl, (blk_cell BK125.out 1).trans rfl, (blk_cell BK125.out 2).trans rfl⟩ (fun hHeld => ?_)
        generalize w22.drew = w23 at HO_15 BK123 BK125 BK130 HB hHeld ⊢
        refine pure_ (i := 0) (N := some 28) (v := ?_) (a' := ?_) #[true, false, false, false, false, false, false] rfl rfl (by kernel_rfl) (fun _ _ _ h => h) (Or.inl ⟨by rfl, ?_⟩) ?_ ?_
        rotate_left; ·(intro w'; go_simp; with_reducible rfl)
        rotate_left; ·(simp only [Act.put, List.setIfInBounds_toArray, List.set_cons_zero, List.set_cons_succ, i64_w, i32_w]; rfl)
        refine pure_ (i := 2) (N := some 30) (v := ?_) (a' := ?_) #[true, false, true, false, false, false, false] rfl rfl (by kernel_rfl) (fun _ _ _ h => h) (Or.inl ⟨by rfl, ?_⟩) ?_ ?_
        rotate_left; ·(intro w'; go_simp; with_reducible rfl)
        rotate_left; ·(simp only [Act.put, List.setIfInBounds_toArray, List.set_cons_zero, List.set_cons_succ, i64_w, i32_w]; rfl)
        refine take_ (i := 1) (N := some 29) (v := ?_) (a' := ?_) #[true, true, true, false, false, false, false] rfl rfl (by kernel_rfl) (fun _ _ _ h => h) (Or.inl ⟨by rfl, ?_⟩) hHeld ?_ ?_
        rotate_left
        ·rintro w' ⟨s0, s1, s2⟩
         go_simp
         with_reducible rfl
        rotate_left; ·(simp only [Act.put, List.setIfInBounds_toArray, List.set_cons_zero, List.set_cons_succ, i64_w, i32_w]; rfl)
        refine take_ (i := 3) (N := some 31) (v := ?_) (a' := ?_) #[true, true, true, true, false, false, false] rfl rfl (by kernel_rfl) (fun _ _ _ h => h) (Or.inl ⟨by rfl, ?_⟩) hHeld ?_ ?_
        rotate_left
        ·rintro w' ⟨s0, s1, s2⟩
         go_simp
         with_reducible rfl
        rotate_left; ·(simp only [Act.put, List.setIfInBounds_toArray, List.set_cons_zero, List.set_cons_succ, i64_w, i32_w]; rfl)
        refine one_ (i := 4) (N := none) #[true, true, true, true, true, false, false] rfl rfl (by kernel_rfl) (by decide) (fun K hK => ?_)
        have hs24 : w23.cell? ⟨gb123, 0, none⟩ = some (.int .i64 0) := (blk_cell BK123.out 0).trans rfl
        have hfs24 := blk_frozen BK123.out 0
        have hns24_1 := NB125_123.out
        have hns24_2 := NB130_123.out
        have hms24_1 := NB123_125.out
        have hms24_2 := NB123_130.out
        have hs25 : w23.cell? ⟨gb123, 1, none⟩ = some (.int .i64 0) := (blk_cell BK123.out 1).trans rfl
        have hfs25 := blk_frozen BK123.out 1
        have hns25_1 := NB125_123.out
        have hns25_2 := NB130_123.out
        have hms25_1 := NB123_125.out
        have hms25_2 := NB123_130.out
        refine skip_ (w1 := ?_) (by rfl) rfl ?_ ?_
        rotate_left
        ·go_simp
         rfl
        refine hK.out _ _ ⟨((cell_far (p := ⟨gb123, _, none⟩) NB125_123.out _).trans (((cell_far (p := ⟨gb123, _, none⟩) NB125_123.out _).trans (hHeld.1)))), ((cell_far (p := ⟨gb123, _, none⟩) NB125_123.out _).trans (((cell_far (p := ⟨gb123, _, none⟩) NB125_123.out _).trans (hHeld.2.1)))), ((cell_far (p := ⟨gb123, _, none⟩) NB125_123.out _).trans (((cell_far (p := ⟨gb123, _, none⟩) NB125_123.out _).trans (hHeld.2.2))))⟩ (fun hHeld => ?_)
        clear hK K
        refine pure_ (i := 5) (N := some 5) (v := ?_) (a' := ?_) #[true, true, true, true, true, true, false] rfl rfl (by kernel_rfl) (fun _ _ _ h => h) (Or.inl ⟨by rfl, ?_⟩) ?_ ?_
        rotate_left; ·(intro w'; go_simp; with_reducible rfl)
        rotate_left; ·(simp only [Act.put, List.setIfInBounds_toArray, List.set_cons_zero, List.set_cons_succ, i64_w, i32_w]; rfl)
        refine pure_ (i := 6) (N := some 6) (v := ?_) (a' := ?_) #[true, true, true, true, true, true, true] rfl rfl (by kernel_rfl) (fun _ _ _ h => h) (Or.inl ⟨by rfl, ?_⟩) ?_ ?_
        rotate_left; ·(intro w'; go_simp; with_reducible rfl)
        rotate_left; ·(simp only [Act.put, List.setIfInBounds_toArray, List.set_cons_zero, List.set_cons_succ, i64_w, i32_w]; rfl)
        refine done_ (by kernel_rfl) ?_
        try go_wp2
        refine bodyPost_ret (results_ctt rfl _ _ gb123 44 #[.int .i64 ((rd_T109 t126 x17_1).f0.f0), .int .i64 ((rd_T109 t126 x17_1).f0.f1)] (0, 0) _ rfl (by (with_reducible repeat (first | refine blk_drewN ?_ _ | refine blk_drew ?_ | refine blk_alloc ?_ _)); refine blk_put (cs := #[.int .i64 ((rd_T109 t126 x17_1).f0.f0), .int .i64 0]) ?_ 1 _ rfl; (with_reducible repeat (first | refine blk_drewN ?_ _ | refine blk_drew ?_ | refine blk_alloc ?_ _)); refine blk_put (cs := #[.int .i64 0, .int .i64 0]) ?_ 0 _ rfl; (with_reducible repeat (first | refine blk_drewN ?_ _ | refine blk_drew ?_ | refine blk_alloc ?_ _)); exact BK123.out) Tryd.underlying44 rfl (by kernel_rfl)) rfl ?_
        exact ⟨by first | rfl | (simp [errW_none, errW_some] <;> rfl) | (simp [*, errW_none, errW_some] <;> rfl), by repeat (first | (with_reducible first | exact HB.out | apply below_alloc | apply pw_below_drewN | apply below_drew1 | refine below_set ?_ GE123.out | refine below_set ?_ GE125.out | refine below_set ?_ GE130.out) | exact HB.out)⟩
       ·rw [if_neg c15] at H
        have c15b0 : decide (a1 < ((rd_T109 t126 x17_1).f0.f1)) = false := decide_eq_false c15
        clear c15
        have H' := Aside0.mk H
        clear H
        have p129 : 0 ≤ (x17_1 : Int) := of_decide_eq_true (by first | (with_reducible assumption) | assumption)
        have q129 : x17_1 < (t126.length : Int) := of_decide_eq_true (by first | (with_reducible assumption) | assumption)
        obtain ⟨ad129, e129, hx129_0, hx129_1, hx129_2⟩ := at_T109 (Kd.R_reads' HO_15.out).2.2 x17_1 p129 q129
        cases e129
        replace p129 := eq_true p129
        replace q129 := eq_true q129
        go_wp2_with (first | ((with_reducible refine gate_dst (N := 9) rfl ?_); refine box_event ?hg (N := 9) ?hd (cs := #[.int .i64 0, .int .i64 0, .int .i64 0]) (t := 109) ?hr ?_; (case hd => rfl); (case hg => rfl); (case hr => first | (go_simp; done) | (go_simp; rfl)); intro gb130 hg w26 hbox hb; have n0_ := Aside0.mk (Kd.R_below (Kd.R_elderB (by (with_reducible repeat (first | apply Kd.R_alloc | apply Kd.R_drewN | apply Kd.R_drew)); exact HO_15.out) gb130 (Nat.le_of_eq hg.symm)) hb); have n1_ := Aside0.mk (blk_below (g := gb123) (o := .cells #[.int .i64 0, .int .i64 0] 44 (0, 0)) (by (with_reducible repeat (first | refine blk_drewN ?_ _ | refine blk_drew ?_ | refine blk_alloc ?_ _)); exact BK123.out) hb); have n2_ := Aside0.mk (blk_below (g := gb125) (o := .cells #[.int .i64 x126000_1, .int .i64 x126001_1, .int .i64 x126002_1] 109 (0, 0)) (by (with_reducible repeat (first | refine blk_drewN ?_ _ | refine blk_drew ?_ | refine blk_alloc ?_ _)); exact BK125.out) hb); have n3_ := Aside0.mk (below_step (by repeat (first | (with_reducible first | exact HB.out | apply below_alloc | apply pw_below_drewN | apply below_drew1 | refine below_set ?_ GE123.out | refine below_set ?_ GE125.out) | exact HB.out)) hb); have n4_ := Aside0.mk (hbox); have n5_ := Aside0.mk ((by rw [hg]; exact (below_size (by repeat (first | (with_reducible first | exact HB.out | apply below_alloc | apply pw_below_drewN | apply below_drew1 | refine below_set ?_ GE123.out | refine below_set ?_ GE125.out) | exact HB.out))) : w.heap.size ≤ gb130)); have n6_ := Aside0.mk ((by rw [hg]; exact (below_size (by repeat (first | (with_reducible first | exact HB.out | apply below_alloc | apply pw_below_drewN | apply below_drew1 | refine below_set ?_ GE123.out | refine below_set ?_ GE125.out) | exact HB.out))) : w.heap.size ≤ gb130)); have n7_ := Aside0.mk ((by rw [hg]; exact Nat.ne_of_lt (blk_lt (g := gb123) (o := .cells #[.int .i64 0, .int .i64 0] 44 (0, 0)) (by (with_reducible repeat (first | refine blk_drewN ?_ _ | refine blk_drew ?_ | refine blk_alloc ?_ _)); exact BK123.out)) : gb123 ≠ gb130)); have n8_ := Aside0.mk ((by rw [hg]; exact Nat.ne_of_gt (blk_lt (g := gb123) (o := .cells #[.int .i64 0, .int .i64 0] 44 (0, 0)) (by (with_reducible repeat (first | refine blk_drewN ?_ _ | refine blk_drew ?_ | refine blk_alloc ?_ _)); exact BK123.out)) : gb130 ≠ gb123)); have n9_ := Aside0.mk ((by rw [hg]; exact Nat.ne_of_lt (blk_lt (g := gb125) (o := .cells #[.int .i64 x126000_1, .int .i64 x126001_1, .int .i64 x126002_1] 109 (0, 0)) (by (with_reducible repeat (first | refine blk_drewN ?_ _ | refine blk_drew ?_ | refine blk_alloc ?_ _)); exact BK125.out)) : gb125 ≠ gb130)); have n10_ := Aside0.mk ((by rw [hg]; exact Nat.ne_of_gt (blk_lt (g := gb125) (o := .cells #[.int .i64 x126000_1, .int .i64 x126001_1, .int .i64 x126002_1] 109 (0, 0)) (by (with_reducible repeat (first | refine blk_drewN ?_ _ | refine blk_drew ?_ | refine blk_alloc ?_ _)); exact BK125.out)) : gb130 ≠ gb125)); clear HO_15; clear BK123; clear BK125; clear HB; have HO_15 := n0_; have BK123 := n1_; have BK125 := n2_; have HB := n3_; have BK130 := n4_; have GW130 := n5_; have GE130 := n6_; have NB123_130 := n7_; have NB130_123 := n8_; have NB125_130 := n9_; have NB130_125 := n10_; clear n0_ n1_ n2_ n3_ n4_ n5_ n6_ n7_ n8_ n9_ n10_; clear hb hbox hg; have hnb27 := NB130_123.out; have hnc27 := NB123_130.out; have hnb28 := NB130_125.out; have hnc28 := NB125_130.out; have hcz29_0 : w26.cell? ⟨gb130, 0, none⟩ = some (.int .i64 0) := (blk_cell BK130.out 0).trans rfl; have hcz29_1 : w26.cell? ⟨gb130, 1, none⟩ = some (.int .i64 0) := (blk_cell BK130.out 1).trans rfl; have hcz29_2 : w26.cell? ⟨gb130, 2, none⟩ = some (.int .i64 0) := (blk_cell BK130.out 2).trans rfl; have hfz29_0 := blk_frozen BK130.out 0; have hfz29_1 := blk_frozen BK130.out 1; have hfz29_2 := blk_frozen BK130.out 2; have hnb30 := NB125_123.out; have hnc30 := NB123_125.out; have hcz31_0 : w26.cell? ⟨gb125, 0, none⟩ = some (.int .i64 x126000_1) := (blk_cell BK125.out 0).trans rfl; have hcz31_1 : w26.cell? ⟨gb125, 1, none⟩ = some (.int .i64 x126001_1) := (blk_cell BK125.out 1).trans rfl; have hcz31_2 : w26.cell? ⟨gb125, 2, none⟩ = some (.int .i64 x126002_1) := (blk_cell BK125.out 2).trans rfl; have hfz31_0 := blk_frozen BK125.out 0; have hfz31_1 := blk_frozen BK125.out 1; have hfz31_2 := blk_frozen BK125.out 2))
        go_roundg k1
        case measure => have := HK1.out; omega
        case rel => exact ⟨(wrap64 (x17_1 + 1)), ((rd_T109 t126 x17_1).f0.f0), ((rd_T109 t126 x17_1).f0.f1), ((rd_T109 t126 x17_1).f1), (by first | rfl | (simp; done) | (simp [*]; done)), H', ⟨by have := HK1.out; omega⟩, ⟨by (with_reducible repeat (first | apply Kd.R_alloc | apply Kd.R_drewN | apply Kd.R_drew)); exact Kd.R_mono (Kd.R_far (p := ⟨gb125, 2, none⟩) (Kd.R_far (p := ⟨gb125, 1, none⟩) (Kd.R_far (p := ⟨gb125, 0, none⟩) (Kd.R_far (p := ⟨gb130, 2, none⟩) (Kd.R_far (p := ⟨gb130, 1, none⟩) (Kd.R_far (p := ⟨gb130, 0, none⟩) (Kd.R_mono (Kd.R_mono HO_15.out (fun k_ hk => (⟨hk, hk.2⟩ : _ ∧ k_ ≠ gb130))) (fun k_ hk => (⟨hk, hk.1.1⟩ : _ ∧ k_ ≠ gb125))) (fun _ hk => hk.1.2) (.int .i64 ((rd_T109 t126 x17_1).f0.f0))) (fun _ hk => hk.1.2) (.int .i64 ((rd_T109 t126 x17_1).f0.f1))) (fun _ hk => hk.1.2) (.int .i64 ((rd_T109 t126 x17_1).f1))) (fun _ hk => hk.2) (.int .i64 ((rd_T109 t126 x17_1).f0.f0))) (fun _ hk => hk.2) (.int .i64 ((rd_T109 t126 x17_1).f0.f1))) (fun _ hk => hk.2) (.int .i64 ((rd_T109 t126 x17_1).f1))) (fun _ hk => hk.1.1.1)⟩, ⟨by (with_reducible repeat (first | refine blk_drewN ?_ _ | refine blk_drew ?_ | refine blk_alloc ?_ _)); refine blk_far ?_ NB123_125.out _; (with_reducible repeat (first | refine blk_drewN ?_ _ | refine blk_drew ?_ | refine blk_alloc ?_ _)); refine blk_far ?_ NB123_125.out _; (with_reducible repeat (first | refine blk_drewN ?_ _ | refine blk_drew ?_ | refine blk_alloc ?_ _)); refine blk_far ?_ NB123_125.out _; (with_reducible repeat (first | refine blk_drewN ?_ _ | refine blk_drew ?_ | refine blk_alloc ?_ _)); refine blk_far ?_ NB123_130.out _; (with_reducible repeat (first | refine blk_drewN ?_ _ | refine blk_drew ?_ | refine blk_alloc ?_ _)); refine blk_far ?_ NB123_130.out _; (with_reducible repeat (first | refine blk_drewN ?_ _ | refine blk_drew ?_ | refine blk_alloc ?_ _)); refine blk_far ?_ NB123_130.out _; (with_reducible repeat (first | refine blk_drewN ?_ _ | refine blk_drew ?_ | refine blk_alloc ?_ _)); exact BK123.out⟩, ⟨by (with_reducible repeat (first | refine blk_drewN ?_ _ | refine blk_drew ?_ | refine blk_alloc ?_ _)); refine blk_put (cs := #[.int .i64 ((rd_T109 t126 x17_1).f0.f0), .int .i64 ((rd_T109 t126 x17_1).f0.f1), .int .i64 x126002_1]) ?_ 2 _ rfl; (with_reducible repeat (first | refine blk_drewN ?_ _ | refine blk_drew ?_ | refine blk_alloc ?_ _)); refine blk_put (cs := #[.int .i64 ((rd_T109 t126 x17_1).f0.f0), .int .i64 x126001_1, .int .i64 x126002_1]) ?_ 1 _ rfl; (with_reducible repeat (first | refine blk_drewN ?_ _ | refine blk_drew ?_ | refine blk_alloc ?_ _)); refine blk_put (cs := #[.int .i64 x126000_1, .int .i64 x126001_1, .int .i64 x126002_1]) ?_ 0 _ rfl; (with_reducible repeat (first | refine blk_drewN ?_ _ | refine blk_drew ?_ | refine blk_alloc ?_ _)); refine blk_far ?_ NB125_130.out _; (with_reducible repeat (first | refine blk_drewN ?_ _ | refine blk_drew ?_ | refine blk_alloc ?_ _)); refine blk_far ?_ NB125_130.out _; (with_reducible repeat (first | refine blk_drewN ?_ _ | refine blk_drew ?_ | refine blk_alloc ?_ _)); refine blk_far ?_ NB125_130.out _; (with_reducible repeat (first | refine blk_drewN ?_ _ | refine blk_drew ?_ | refine blk_alloc ?_ _)); exact BK125.out⟩, ⟨by repeat (first | (with_reducible first | exact HB.out | apply below_alloc | apply pw_below_drewN | apply below_drew1 | refine below_set ?_ GE123.out | refine below_set ?_ GE125.out | refine below_set ?_ GE130.out) | exact HB.out)⟩⟩
      ·rw [if_neg c14] at H
       exact absurd H (by simp)
     ·rw [if_neg c13] at H
      exact absurd H (by simp)
    ·rw [if_neg c12] at H
     have c12b0 : decide (x17_1 < (t126.length : Int)) = false := decide_eq_false c12
     clear c12
     simp only [Option.some.injEq, Prod.mk.injEq] at H
     obtain ⟨rfl, rfl, rfl, rfl⟩ := H
     try go_wp2
     have n0_ := Aside0.mk (Kd.R_drew HO_15.out)
     have n1_ := Aside0.mk (blk_drew BK123.out)
     have n2_ := Aside0.mk (blk_drew BK125.out)
     have n3_ := Aside0.mk (below_drew1 HB.out)
     clear HO_15 BK123 BK125 HB
     have HO_15 := n0_
     have BK123 := n1_
     have BK125 := n2_
     have HB := n3_
     clear n0_ n1_ n2_ n3_
     refine start_ (n := 7) (S := fun w' => w'.cell? ⟨gb125, 0, none⟩ = some (.int .i64 x126000_1) ∧ w'.cell? ⟨gb125, 1, none⟩ = some (.int .i64 x126001_1) ∧ w'.cell? ⟨gb125, 2, none⟩ = some (.int .i64 x126002_1)) (ds := []) #[false, false, false, false, false, false, false] (by kernel_rfl) rfl rfl ⟨(blk_cell BK125.out 0).trans rfl, (blk_cell BK125.out 1).trans rfl, (blk_cell BK125.out 2).trans rfl⟩ (fun hHeld => ?_)
     generalize wr.drew = w32 at HO_15 BK123 BK125 HB hHeld ⊢
     refine pure_ (i := 0) (N := some 28) (v := ?_) (a' := ?_) #[true, false, false, false, false, false, false] rfl rfl (by kernel_rfl) (fun _ _ _ h => h) (Or.inl ⟨by rfl, ?_⟩) ?_ ?_
     rotate_left; ·(intro w'; go_simp; with_reducible rfl)
     rotate_left; ·(simp only [Act.put, List.setIfInBounds_toArray, List.set_cons_zero, List.set_cons_succ, i64_w, i32_w]; rfl)
     refine pure_ (i := 2) (N := some 30) (v := ?_) (a' := ?_) #[true, false, true, false, false, false, false] rfl rfl (by kernel_rfl) (fun _ _ _ h => h) (Or.inl ⟨by rfl, ?_⟩) ?_ ?_
     rotate_left; ·(intro w'; go_simp; with_reducible rfl)
     rotate_left; ·(simp only [Act.put, List.setIfInBounds_toArray, List.set_cons_zero, List.set_cons_succ, i64_w, i32_w]; rfl)
     refine take_ (i := 1) (N := some 29) (v := ?_) (a' := ?_) #[true, true, true, false, false, false, false] rfl rfl (by kernel_rfl) (fun _ _ _ h => h) (Or.inl ⟨by rfl, ?_⟩) hHeld ?_ ?_
     rotate_left
     ·rintro w' ⟨s0, s1, s2⟩
      go_simp
      with_reducible rfl
     rotate_left; ·(simp only [Act.put, List.setIfInBounds_toArray, List.set_cons_zero, List.set_cons_succ, i64_w, i32_w]; rfl)
     refine take_ (i := 3) (N := some 31) (v := ?_) (a' := ?_) #[true, true, true, true, false, false, false] rfl rfl (by kernel_rfl) (fun _ _ _ h => h) (Or.inl ⟨by rfl, ?_⟩) hHeld ?_ ?_
     rotate_left
     ·rintro w' ⟨s0, s1, s2⟩
      go_simp
      with_reducible rfl
     rotate_left; ·(simp only [Act.put, List.setIfInBounds_toArray, List.set_cons_zero, List.set_cons_succ, i64_w, i32_w]; rfl)
     refine one_ (i := 4) (N := none) #[true, true, true, true, true, false, false] rfl rfl (by kernel_rfl) (by decide) (fun K hK => ?_)
     have hs33 : w32.cell? ⟨gb123, 0, none⟩ = some (.int .i64 0) := (blk_cell BK123.out 0).trans rfl
     have hfs33 := blk_frozen BK123.out 0
     have hns33_1 := NB125_123.out
     have hms33_1 := NB123_125.out
     have hs34 : w32.cell? ⟨gb123, 1, none⟩ = some (.int .i64 0) := (blk_cell BK123.out 1).trans rfl
     have hfs34 := blk_frozen BK123.out 1
     have hns34_1 := NB125_123.out
     have hms34_1 := NB123_125.out
     refine skip_ (w1 := ?_) (by rfl) rfl ?_ ?_
     rotate_left
     ·go_simp
      rfl
     refine hK.out _ _ ⟨((cell_far (p := ⟨gb123, _, none⟩) NB125_123.out _).trans (((cell_far (p := ⟨gb123, _, none⟩) NB125_123.out _).trans (hHeld.1)))), ((cell_far (p := ⟨gb123, _, none⟩) NB125_123.out _).trans (((cell_far (p := ⟨gb123, _, none⟩) NB125_123.out _).trans (hHeld.2.1)))), ((cell_far (p := ⟨gb123, _, none⟩) NB125_123.out _).trans (((cell_far (p := ⟨gb123, _, none⟩) NB125_123.out _).trans (hHeld.2.2))))⟩ (fun hHeld => ?_)
     clear hK K
     refine pure_ (i := 5) (N := some 5) (v := ?_) (a' := ?_) #[true, true, true, true, true, true, false] rfl rfl (by kernel_rfl) (fun _ _ _ h => h) (Or.inl ⟨by rfl, ?_⟩) ?_ ?_
     rotate_left; ·(intro w'; go_simp; with_reducible rfl)
     rotate_left; ·(simp only [Act.put, List.setIfInBounds_toArray, List.set_cons_zero, List.set_cons_succ, i64_w, i32_w]; rfl)
     refine pure_ (i := 6) (N := some 6) (v := ?_) (a' := ?_) #[true, true, true, true, true, true, true] rfl rfl (by kernel_rfl) (fun _ _ _ h => h) (Or.inl ⟨by rfl, ?_⟩) ?_ ?_
     rotate_left; ·(intro w'; go_simp; with_reducible rfl)
     rotate_left; ·(simp only [Act.put, List.setIfInBounds_toArray, List.set_cons_zero, List.set_cons_succ, i64_w, i32_w]; rfl)
     refine done_ (by kernel_rfl) ?_
     try go_wp2
     refine bodyPost_ret (results_ctt rfl _ _ gb123 44 #[.int .i64 x126000_1, .int .i64 x126001_1] (0, 0) _ rfl (by (with_reducible repeat (first | refine blk_drewN ?_ _ | refine blk_drew ?_ | refine blk_alloc ?_ _)); refine blk_put (cs := #[.int .i64 x126000_1, .int .i64 0]) ?_ 1 _ rfl; (with_reducible repeat (first | refine blk_drewN ?_ _ | refine blk_drew ?_ | refine blk_alloc ?_ _)); refine blk_put (cs := #[.int .i64 0, .int .i64 0]) ?_ 0 _ rfl; (with_reducible repeat (first | refine blk_drewN ?_ _ | refine blk_drew ?_ | refine blk_alloc ?_ _)); exact BK123.out) Tryd.underlying44 rfl (by kernel_rfl)) rfl ?_
     exact ⟨by first | rfl | (simp [errW_none, errW_some] <;> rfl) | (simp [*, errW_none, errW_some] <;> rfl), by repeat (first | (with_reducible first | exact HB.out | apply below_alloc | apply pw_below_drewN | apply below_drew1 | refine below_set ?_ GE123.out | refine below_set ?_ GE125.out) | exact HB.out)⟩

end Go.Proofs.YtijbkiajhicooabDoor.PW

namespace Go.Proofs.YtijbkiajhicooabDoor.PW
open Go.RowKit Go.Proofs.YtijbkiajhicooabDoorW.PrintWords Go.Proofs.YtijbkiajhicooabDoorW.PrintLast Go.Proofs.YtijbkiajhicooabDoorW.PrintMore
attribute [local go_sem] max2_int min2_int max_two min_two max_three min_three max_four min_four   -- for this text's walks alone
set_option linter.unusedVariables false
set_option linter.unusedSimpArgs false

attribute [local go_sem high] eqA44
def galleyref22_SameHits.l0 : Nat → List (S44) → List (S44) → Int → Option (Bool)
 | 0, _, _, _ => none
 | k + 1, x0, x1, x5 => if x5 < (x0.length : Int) then (if 0 ≤ x5 then (if x5 < (x1.length : Int) then (if (!(((rd_T44 x0 x5).f0) == ((rd_T44 x1 x5).f0)) || (!(((rd_T44 x0 x5).f1) == ((rd_T44 x1 x5).f1)))) = true then (some false) else (galleyref22_SameHits.l0 k x0 x1 (wrap64 (x5 + 1)))) else (none)) else (none)) else (some true)
def galleyref22_SameHits.f (k : Nat) (l0 : List (S44)) (l1 : List (S44)) : Option (Bool) := if (l0.length : Int) = (l1.length : Int) then (galleyref22_SameHits.l0 k l0 l1 0) else (some false)
set_option maxHeartbeats 8000000 in
set_option maxRecDepth 100000 in
theorem galleyref22_SameHits.calls (k : Nat) (A0 : Option Addr) (c0 : Nat) (l0 : List (S44)) (A1 : Option Addr) (c1 : Nat) (l1 : List (S44)) (r : Bool) (w : World) (hr0 : Kd.C k44 w A0 l0.length l0) (hc0 : l0.length ≤ c0) (hr1 : Kd.C k44 w A1 l1.length l1) (hc1 : l1.length ≤ c1) (h : galleyref22_SameHits.f k l0 l1 = some r) :
  Calls Tryd.prog 24 #[.slice A0 l0.length c0, .slice A1 l1.length c1] w fun e w' => e = .returned (.bool r) ∧ Drawn0 w w' := by
 have hu44 := Tryd.underlying44
 have HR0 := Aside0.mk hr0
 have HC0 := Aside0.mk hc0
 clear hr0 hc0
 have HR1 := Aside0.mk hr1
 have HC1 := Aside0.mk hc1
 clear hr1 hc1
 have H : (if (l0.length : Int) = (l1.length : Int) then (galleyref22_SameHits.l0 k l0 l1 0) else (some false)) = some r := h
 clear h
 by_cases c3 : (l0.length : Int) = (l1.length : Int)
 ·rw [if_pos c3] at H
  have c3b0 : ((l0.length : Int) == (l1.length : Int)) = true := beq_iff_eq.mpr c3
  have c3b1 : ((l0.length : Int) != (l1.length : Int)) = false := bne_eq_false_iff_eq.mpr c3
  have c3b2 : (l0.length == l1.length) = true := by first | simpa using c3 | (simp at c3 ⊢; omega)
  clear c3
  have H' := Aside0.mk H
  clear H
  go_enter Tryd.func24, Tryd.ntmps24
  go_wp2
  repeat (go_quiet (fail); try go_wp2)
  go_loopg [5] k (fun kq v5 w' => ∃ (x5_1 : Int), v5 = .int .i64 x5_1 ∧ Aside0 (galleyref22_SameHits.l0 kq l0 l1 x5_1 = some r) ∧ Aside0 (kq ≤ k) ∧ Drawn0 w w')
  case atStart => exact ⟨(0), (by first | rfl | (simp; done) | (simp [*]; done)), H', ⟨Nat.le_refl _⟩, by repeat (first | exact Drawn0.refl _ | apply Drawn0.step)⟩
  case round =>
   clear H'
   try clear c1
   try clear c2
   try clear p2
   try clear c3
   try clear c3b0
   try clear c3b1
   try clear c3b2
   obtain ⟨x5_1, rfl, HA, HK1, ⟨m1, rfl⟩⟩ := hrel
   cases gk with
   | zero => exact absurd HA.out (by simp [galleyref22_SameHits.l0])
   | succ k1 =>
    have H := HA.out
    clear HA
    simp only [galleyref22_SameHits.l0] at H
    by_cases c4 : x5_1 < (l0.length : Int)
    ·rw [if_pos c4] at H
     have c4b0 : decide (x5_1 < (l0.length : Int)) = true := decide_eq_true c4
     clear c4
     by_cases c5 : 0 ≤ x5_1
     ·rw [if_pos c5] at H
      have c5b0 : decide (0 ≤ x5_1) = true := decide_eq_true c5
      clear c5
      by_cases c6 : x5_1 < (l1.length : Int)
      ·rw [if_pos c6] at H
       have c6b0 : decide (x5_1 < (l1.length : Int)) = true := decide_eq_true c6
       clear c6
       by_cases c7 : (!(((rd_T44 l0 x5_1).f0) == ((rd_T44 l1 x5_1).f0)) || (!(((rd_T44 l0 x5_1).f1) == ((rd_T44 l1 x5_1).f1)))) = true
       ·rw [if_pos c7] at H
        have c7b0 : (!(((rd_T44 l0 x5_1).f0) == ((rd_T44 l1 x5_1).f0)) || (!(((rd_T44 l0 x5_1).f1) == ((rd_T44 l1 x5_1).f1)))) = true := c7
        clear c7
        obtain rfl := Option.some.inj H
        have p131 : 0 ≤ (x5_1 : Int) := of_decide_eq_true (by first | (with_reducible assumption) | assumption)
        have q131 : x5_1 < (l0.length : Int) := of_decide_eq_true (by first | (with_reducible assumption) | assumption)
        obtain ⟨ad131, e131, hx131_0, hx131_1⟩ := at_T44 HR0.out x5_1 p131 q131
        cases e131
        replace p131 := eq_true p131
        replace q131 := eq_true q131
        have p132 : 0 ≤ (x5_1 : Int) := of_decide_eq_true (by first | (with_reducible assumption) | assumption)
        have q132 : x5_1 < (l1.length : Int) := of_decide_eq_true (by first | (with_reducible assumption) | assumption)
        obtain ⟨ad132, e132, hx132_0, hx132_1⟩ := at_T44 HR1.out x5_1 p132 q132
        cases e132
        replace p132 := eq_true p132
        replace q132 := eq_true q132
        go_wp2
        repeat (go_quiet (fail); try go_wp2)
        go_ret
        exact ⟨by first | rfl | (simp; done) | (simp [*]; done), by repeat (first | exact Drawn0.refl _ | apply Drawn0.step)⟩
       ·rw [if_neg c7] at H
        have c7b0 : (!(((rd_T44 l0 x5_1).f0) == ((rd_T44 l1 x5_1).f0)) || (!(((rd_T44 l0 x5_1).f1) == ((rd_T44 l1 x5_1).f1)))) = false := by simpa using c7
        clear c7
        have H' := Aside0.mk H
        clear H
        have p131 : 0 ≤ (x5_1 : Int) := of_decide_eq_true (by first | (with_reducible assumption) | assumption)
        have q131 : x5_1 < (l0.length : Int) := of_decide_eq_true (by first | (with_reducible assumption) | assumption)
        obtain ⟨ad131, e131, hx131_0, hx131_1⟩ := at_T44 HR0.out x5_1 p131 q131
        cases e131
        replace p131 := eq_true p131
        replace q131 := eq_true q131
        have p132 : 0 ≤ (x5_1 : Int) := of_decide_eq_true (by first | (with_reducible assumption) | assumption)
        have q132 : x5_1 < (l1.length : Int) := of_decide_eq_true (by first | (with_reducible assumption) | assumption)
        obtain ⟨ad132, e132, hx132_0, hx132_1⟩ := at_T44 HR1.out x5_1 p132 q132
        cases e132
        replace p132 := eq_true p132
        replace q132 := eq_true q132
        go_wp2
        repeat (go_quiet (fail); try go_wp2)
        go_roundg k1
        case measure => have := HK1.out; omega
        case rel => exact ⟨(wrap64 (x5_1 + 1)), (by first | rfl | (simp; done) | (simp [*]; done)), H', ⟨by have := HK1.out; omega⟩, by repeat (first | exact Drawn0.refl _ | apply Drawn0.step)⟩
      ·rw [if_neg c6] at H
       exact absurd H (by simp)
     ·rw [if_neg c5] at H
      exact absurd H (by simp)
    ·rw [if_neg c4] at H
     have c4b0 : decide (x5_1 < (l0.length : Int)) = false := decide_eq_false c4
     clear c4
     obtain rfl := Option.some.inj H
     go_wp2
     repeat (go_quiet (fail); try go_wp2)
     go_ret
     exact ⟨by first | rfl | (simp; done) | (simp [*]; done), by repeat (first | exact Drawn0.refl _ | apply Drawn0.step)⟩
 ·rw [if_neg c3] at H
  have c3b0 : ((l0.length : Int) == (l1.length : Int)) = false := beq_eq_false_iff_ne.mpr c3
  have c3b1 : ((l0.length : Int) != (l1.length : Int)) = true := bne_iff_ne.mpr c3
  have c3b2 : (l0.length == l1.length) = false := by first | simpa using c3 | (simp at c3 ⊢; omega)
  obtain rfl := Option.some.inj H
  go_enter Tryd.func24, Tryd.ntmps24
  go_wp2
  repeat (go_quiet (fail); try go_wp2)
  go_ret
  exact ⟨by first | rfl | (simp; done) | (simp [*]; done), by repeat (first | exact Drawn0.refl _ | apply Drawn0.step)⟩

end Go.Proofs.YtijbkiajhicooabDoor.PW

