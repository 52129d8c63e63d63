-- Written by merge.py, a program of this session's: PWx0 PWx5 PWx6 PWx7 PWx14 PWx15 PWx8 PWx9 PWx10 PWx11 PWx12 PWx13 PWx2 PWx3 PWx4
import Derived.Test.YtijbkiajhicooaaDoorProg
import Derived.Below
import Derived.Deep.Draws
import Derived.Deep.AppendLies
import Derived.Maps.AppendAt
import Derived.OwnWalk
import Derived.Laws.BytesArg
import Derived.Laws.MakeOwn
import Derived.Laws.OwnMore
import Derived.Deep.OwnRows
import Derived.Tactics
import Derived.Lib.ConvBytes
import Derived.Laws.Slices
import Derived.WalkKit
import Derived.KernelRfl
import Derived.RowKit3
import Derived.Deep.LoopGhost
import Derived.Deep.QuietTactic
import Derived.BigQuiet
import Derived.WideLaws
import Derived.Deep.DeepCutAuto
import Derived.Deep.CutBlock
import Derived.Deep.RegionHeld3
import Derived.Laws.Rows
import Derived.Lib.AppendStr
import Derived.ArgAppend
import Derived.Laws.IdiomCopy
import Derived.OrdersHeld
import Derived.Laws.BitsLemmas
import Derived.RowKit
import Derived.Test.YtijbkiajhicooaaDoorWWords
import Derived.Test.YtijbkiajhicooaaDoorWLast
import Derived.Test.YtijbkiajhicooaaDoorWTab
import Derived.Test.YtijbkiajhicooaaDoorWFour
import Derived.Test.YtijbkiajhicooaaDoorWQPut
import Derived.Test.YtijbkiajhicooaaDoorWApart
import Derived.Test.YtijbkiajhicooaaDoorWArr
import Derived.Test.YtijbkiajhicooaaDoorWZeros
import Derived.Test.YtijbkiajhicooaaDoorWFoot
import Derived.Test.YtijbkiajhicooaaDoorWKept
import Derived.Test.YtijbkiajhicooaaDoorWShare
import Derived.Test.YtijbkiajhicooaaDoorWN
import Derived.Test.YtijbkiajhicooaaDoorWFootNe
import Derived.Test.YtijbkiajhicooaaDoorWAt
import Derived.Test.YtijbkiajhicooaaDoorWEqStruct
import Derived.Test.YtijbkiajhicooaaDoorWRepsOne
import Derived.Test.YtijbkiajhicooaaDoorWInv
import Derived.Test.YtijbkiajhicooaaDoorWInvWords
import Derived.Test.YtijbkiajhicooaaDoorWGuard
import Derived.Test.YtijbkiajhicooaaDoorWNEv
import Derived.Test.YtijbkiajhicooaaDoorWMore
import Derived.Lib.OthersKept
import Derived.LoopN
namespace Go.Proofs.YtijbkiajhicooaaDoor.PW
open Go.RowKit Go.Proofs.YtijbkiajhicooaaDoorW.PrintWords Go.Proofs.YtijbkiajhicooaaDoorW.PrintLast Go.Proofs.YtijbkiajhicooaaDoorW.PrintMore
attribute [local go_sem] max2_int min2_int max_two min_two max_three min_three max_four min_four   -- for this text's walks alone
set_option linter.unusedVariables false
set_option linter.unusedSimpArgs false



def errW : Option Int → Value
 | none => .nilIface
 | some c => .iface 0 (.int .i64 c)
theorem errW_none : errW none = .nilIface := rfl
theorem errW_some (c : Int) : errW (some c) = .iface 0 (.int .i64 c) := rfl

theorem info5 : (Tryd.prog.info? 5).map (fun i => (i.zero, i.size, i.bytes)) = some (some (.int .u8 0), 1, 1) := by kernel_rfl
theorem info100 : (Tryd.prog.info? 100).map (fun i => (i.zero, i.size, i.bytes)) = some (some (.agg #[(.int .i64 0), (.int .i64 0)]), 2, 16) := by kernel_rfl
structure S100 where
 f0 : Int
 f1 : Int
def z100 : S100 := ⟨(0 : Int), (0 : Int)⟩
def k100 : Kd S100 := Kd.iso (Kd.pair (Kd.int .i64) (Kd.int .i64)) (fun x : S100 => (x.f0, x.f1))
theorem k100_open {w : World} {x : S100} {cs : List Value} (h : k100.K w x cs) : cs = [.int .i64 x.f0, .int .i64 x.f1] := by
 obtain ⟨_, _, rfl, rfl, rfl⟩ := h
 exact rfl
theorem k100_openM {w : World} {base : Nat} {ok : Nat → Prop} {x : S100} {cs : List Value} (h : k100.M w base ok x cs) : cs = [.int .i64 x.f0, .int .i64 x.f1] := by
 obtain ⟨_, _, rfl, rfl, rfl⟩ := h
 exact rfl
theorem k100_mkM (w : World) (base : Nat) (ok : Nat → Prop) (x : S100)  : k100.M w base ok x [.int .i64 x.f0, .int .i64 x.f1] := ⟨[.int .i64 x.f0], [.int .i64 x.f1], rfl, rfl, rfl⟩
def rd_T100 (xs : List S100) (i : Int) : S100 := xs.getD i.toNat z100
theorem at_T100 {w : World} {A : Option Addr} {n : Nat} {xs : List S100} (h : Kd.C k100 w A n xs) (i : Int) (h0 : 0 ≤ i) (h1 : i < n) : ∃ ad , A = some ad ∧ w.cell? (ad.add (i.toNat * 2)) = some (.int .i64 (rd_T100 xs i).f0) ∧ w.cell? ⟨(ad.add (i.toNat * 2)).block, (ad.add (i.toNat * 2)).off + 1, none⟩ = some (.int .i64 (rd_T100 xs i).f1) := by
 obtain ⟨ad, c, e, _, hK, hc0⟩ := Kd.C_get h z100 i h0 h1
 have hc : ∀ j u, c[j]? = some u → w.cell? (ad.add (i.toNat * 2 + j)) = some u := hc0
 obtain rfl := k100_open hK
 exact ⟨ad, e, hc 0 _ rfl, by rw [← add_field _ _ 1 (by omega)]; exact hc 1 _ rfl⟩

end Go.Proofs.YtijbkiajhicooaaDoor.PW

namespace Go.Proofs.YtijbkiajhicooaaDoor.PW
open Go.RowKit Go.Proofs.YtijbkiajhicooaaDoorW.PrintWords Go.Proofs.YtijbkiajhicooaaDoorW.PrintLast Go.Proofs.YtijbkiajhicooaaDoorW.PrintMore
attribute [local go_sem] max2_int min2_int max_two min_two max_three min_three max_four min_four   -- for this text's walks alone
set_option linter.unusedVariables false
set_option linter.unusedSimpArgs false

def stringslite_HasPrefix.f (a0 : ByteArray) (a1 : ByteArray) : Option (Bool) := if (a0.size : Int) ≥ (a1.size : Int) then (if 0 ≤ (a1.size : Int) then (if (a1.size : Int) ≤ (a0.size : Int) then (some ((a0.extract 0 ((a1.size : Int) : Int).toNat).toList == a1.toList)) else (none)) else (none)) else (some false)
set_option maxHeartbeats 8000000 in
set_option maxRecDepth 100000 in
theorem stringslite_HasPrefix.calls (a0 : ByteArray) (a1 : ByteArray) (r : Bool) (w : World) (h : stringslite_HasPrefix.f a0 a1 = some r) :
  Calls Tryd.prog 104 #[.string a0, .string a1] w fun e w' => e = .returned (.bool r) ∧ Drawn0 w w' := by
 have H : (if (a0.size : Int) ≥ (a1.size : Int) then (if 0 ≤ (a1.size : Int) then (if (a1.size : Int) ≤ (a0.size : Int) then (some ((a0.extract 0 ((a1.size : Int) : Int).toNat).toList == a1.toList)) else (none)) else (none)) else (some false)) = some r := h
 clear h
 by_cases c3 : (a0.size : Int) ≥ (a1.size : Int)
 ·rw [if_pos c3] at H
  have c3b0 : decide ((a1.size : Int) ≤ (a0.size : Int)) = true := decide_eq_true c3
  have c3b1 : decide (a1.size ≤ a0.size) = true := decide_eq_true (Int.ofNat_le.mp c3)
  clear c3
  by_cases c4 : 0 ≤ (a1.size : Int)
  ·rw [if_pos c4] at H
   have c4b0 := eq_true c4
   have c4b1 : decide (0 ≤ (a1.size : Int)) = true := decide_eq_true c4
   clear c4
   by_cases c5 : (a1.size : Int) ≤ (a0.size : Int)
   ·rw [if_pos c5] at H
    have c5b0 := eq_true c5
    have c5b1 : decide ((a1.size : Int) ≤ (a0.size : Int)) = true := decide_eq_true c5
    clear c5
    obtain rfl := Option.some.inj H
    go_enter Tryd.func104, Tryd.ntmps104
    go_wp2
    go_ret
    exact ⟨by first | rfl | (simp; done) | (simp [*]; done), by repeat (first | exact Drawn0.refl _ | apply Drawn0.step)⟩
   ·rw [if_neg c5] at H
    exact absurd H (by simp)
  ·rw [if_neg c4] at H
   exact absurd H (by simp)
 ·rw [if_neg c3] at H
  have c3b0 : decide ((a1.size : Int) ≤ (a0.size : Int)) = false := decide_eq_false c3
  have c3b1 : decide (a1.size ≤ a0.size) = false := decide_eq_false (fun h => c3 (Int.ofNat_le.mpr h))
  clear c3
  obtain rfl := Option.some.inj H
  go_enter Tryd.func104, Tryd.ntmps104
  go_wp2
  go_ret
  exact ⟨by first | rfl | (simp; done) | (simp [*]; done), by repeat (first | exact Drawn0.refl _ | apply Drawn0.step)⟩

end Go.Proofs.YtijbkiajhicooaaDoor.PW

namespace Go.Proofs.YtijbkiajhicooaaDoor.PW
open Go.RowKit Go.Proofs.YtijbkiajhicooaaDoorW.PrintWords Go.Proofs.YtijbkiajhicooaaDoorW.PrintLast Go.Proofs.YtijbkiajhicooaaDoorW.PrintMore
attribute [local go_sem] max2_int min2_int max_two min_two max_three min_three max_four min_four   -- for this text's walks alone
set_option linter.unusedVariables false
set_option linter.unusedSimpArgs false

def strings_HasPrefix.f (a0 : ByteArray) (a1 : ByteArray) : Option (Bool) := (stringslite_HasPrefix.f a0 a1).bind fun t111 => (some t111)
set_option maxHeartbeats 8000000 in
set_option maxRecDepth 100000 in
theorem strings_HasPrefix.calls (a0 : ByteArray) (a1 : ByteArray) (r : Bool) (w : World) (h : strings_HasPrefix.f a0 a1 = some r) :
  Calls Tryd.prog 85 #[.string a0, .string a1] w fun e w' => e = .returned (.bool r) ∧ Drawn0 w w' := by
 have H : ((stringslite_HasPrefix.f a0 a1).bind fun t111 => (some t111)) = some r := h
 clear h
 replace H := Option.bind_eq_some_iff.mp H
 obtain ⟨t111, A30, H⟩ := H
 replace H : (some t111) = some r := H
 have A3 := Aside0.mk A30
 clear A30
 obtain rfl := Option.some.inj H
 go_enter Tryd.func85, Tryd.ntmps85
 go_wp2_with (first | ((with_reducible refine gate_callee (f := 104) rfl ?_); refine goesL_ (some 7) rfl rfl Tryd.func104 (by kernel_rfl) rfl #[.string a0, .string a1] rfl (by (try simp only [List.map_toArray, List.map_cons, List.map_nil]); first | done | rfl | (simp only [List.length_drop, List.length_take]; rfl)) ?_; (with_reducible refine (stringslite_HasPrefix.calls a0 a1 t111 _ A3.out).mono ?_); rintro e w' ⟨rfl, ⟨nd, rfl⟩⟩; refine ⟨_, rfl, ?_⟩))
 go_ret
 exact ⟨by first | rfl | (simp; done) | (simp [*]; done), by repeat (first | exact Drawn0.refl _ | apply Drawn0.step)⟩

end Go.Proofs.YtijbkiajhicooaaDoor.PW

namespace Go.Proofs.YtijbkiajhicooaaDoor.PW
open Go.RowKit Go.Proofs.YtijbkiajhicooaaDoorW.PrintWords Go.Proofs.YtijbkiajhicooaaDoorW.PrintLast Go.Proofs.YtijbkiajhicooaaDoorW.PrintMore
attribute [local go_sem] max2_int min2_int max_two min_two max_three min_three max_four min_four   -- for this text's walks alone
set_option linter.unusedVariables false
set_option linter.unusedSimpArgs false

/-- What the package-level variable step.bad holds. -/
def LaidBad (w : World) : Prop := 0 < w.heap.size ∧ w.cell? ⟨0, 0, none⟩ = some (.int .i32 65533) ∧ w.cell? ⟨0, 1, none⟩ = some (.int .i64 1) ∧ w.cell? ⟨0, 2, none⟩ = some (.bool false)
theorem laid_block {w W : World} (h : LaidBad w) (e : W.heap[0]? = w.heap[0]?) : LaidBad W := by
 have hc : ∀ i : Nat, W.cell? ⟨0, i, none⟩ = w.cell? ⟨0, i, none⟩ := fun i => by simp [World.cell?, e]
 have hl : 0 < W.heap.size := by
  rcases Nat.eq_zero_or_pos W.heap.size with hz | hz
  ·rw [Array.getElem?_eq_none (by omega), Array.getElem?_eq_getElem h.1] at e
   cases e
  ·exact hz
 exact ⟨hl, by rw [hc]; exact h.2.1, by rw [hc]; exact h.2.2.1, by rw [hc]; exact h.2.2.2⟩
theorem laid_below {w W : World} (h : LaidBad w) (hb : Below w.heap.size w W) : LaidBad W := laid_block h (hb.block 0 h.1)
theorem laid_cell {w : World} (h : LaidBad w) : w.cell? ⟨0, 0, none⟩ = some (.int .i32 65533) ∧ w.cell? ⟨0, 1, none⟩ = some (.int .i64 1) ∧ w.cell? ⟨0, 2, none⟩ = some (.bool false) := h.2

def hasFD (s : ByteArray) : Bool := decide (3 ≤ s.size) && ((s.extract 0 3).toList == ([239, 191, 189] : List UInt8))
/-- The step with which a string begins. -/
def firstOf (s : ByteArray) : Int × Int × Bool :=
 if s.size = 0 then (65533, 1, false)
 else if (Utf8.decode s 0).1 = 65533 then (if hasFD s then (65533, 3, true) else (65533, 1, false))
 else ((Utf8.decode s 0).1, ((Utf8.encode ((Utf8.decode s 0).1 : Int)).size : Int), true)
def step_first.f (a0 : ByteArray) : Option (Int × Int × Bool) := some (firstOf a0)

theorem blk_put3 {W : World} {g : Nat} {t : TypeId} {a b c : Value} (x y z : Value) (h : W.heap[g]? = some (.cells #[a, b, c] t (0, 0))) :
  (((W.setCell ⟨g, 0, none⟩ x).setCell ⟨g, 1, none⟩ y).setCell ⟨g, 2, none⟩ z).heap[g]? = some (.cells #[x, y, z] t (0, 0)) :=
 blk_put (blk_put (blk_put h 0 x (cs' := #[x, b, c]) rfl) 1 y (cs' := #[x, y, c]) rfl) 2 z rfl
theorem below_put3 {w W : World} {g : Nat} (h : Below w.heap.size w W) (hg : w.heap.size ≤ g) (x y z : Value) :
  Below w.heap.size w (((W.setCell ⟨g, 0, none⟩ x).setCell ⟨g, 1, none⟩ y).setCell ⟨g, 2, none⟩ z) := below_set (below_set (below_set h hg) hg) hg

set_option maxRecDepth 100000 in
theorem step_first.bad (s : ByteArray) (w : World) (hL : LaidBad w) (hs : s.size = 0) :
  Calls Tryd.prog 73 #[.string s] w fun e w' => e = .returned (.agg #[.int .i32 65533, .int .i64 1, .bool false]) ∧ Below w.heap.size w w' := by
 have hu := Tryd.underlying23
 have hnx := run_next_end (P := Tryd.prog) (w.alloc (.cells #[.int .i32 0, .int .i64 0, .bool false] 23)) s 0 0 (by omega)
 simp only [World.size_alloc] at hnx
 clear hs
 have hb : Below w.heap.size w ((w.alloc (.cells #[.int .i32 0, .int .i64 0, .bool false] 23)).iter s 0) := ((Below.refl _ _).alloc (Nat.le_refl _) _).alloc (by simp) _
 obtain ⟨h0, h1, h2⟩ := laid_cell (laid_below hL hb)
 have hg : ((w.alloc (.cells #[.int .i32 0, .int .i64 0, .bool false] 23)).iter s 0).heap[w.heap.size]? = some (.cells #[.int .i32 0, .int .i64 0, .bool false] 23 (0, 0)) := blk_alloc (blk_new w _) _
 have c0 := blk_cell hg 0
 have c1 := blk_cell hg 1
 have c2 := blk_cell hg 2
 have f0 := blk_frozen hg 0
 have f1 := blk_frozen hg 1
 have f2 := blk_frozen hg 2
 have HG := Aside0.mk hg
 have HB := Aside0.mk hb
 clear hg hb hL
 go_enter Tryd.func73, Tryd.ntmps73
 go_wp2
 generalize (w.alloc (.cells #[.int .i32 0, .int .i64 0, .bool false] 23)).iter s 0 = W at *
 refine wp_loop_rounds 1 ?_
 rw [rounds_succ]
 go_wp2
 refine bodyPost_ret (results_cell_row rfl _ _ w.heap.size 23 #[.int .i32 65533, .int .i64 1, .bool false] (0, 0) _ rfl (blk_put3 _ _ _ HG.out) Tryd.underlying23 rfl (by kernel_rfl)) rfl ?_
 exact ⟨rfl, below_put3 HB.out (Nat.le_refl _) _ _ _⟩

set_option maxRecDepth 100000 in
theorem step_first.whole (s : ByteArray) (w : World) (hL : LaidBad w) (hs : 0 < s.size) (hr : (Utf8.decode s 0).1 ≠ 65533) :
  Calls Tryd.prog 73 #[.string s] w fun e w' => e = .returned (.agg #[.int .i32 ((Utf8.decode s 0).1 : Int), .int .i64 ((Utf8.encode ((Utf8.decode s 0).1 : Int)).size : Int), .bool true]) ∧ Below w.heap.size w w' := by
 have hu := Tryd.underlying23
 have hu9 := Tryd.underlying9
 have hu21 := Tryd.underlying21
 have hnx := run_next_any (P := Tryd.prog) (w.alloc (.cells #[.int .i32 0, .int .i64 0, .bool false] 23)) s 0 0 hs
 simp only [World.size_alloc] at hnx
 generalize (Utf8.decode s 0).1 = r at *
 generalize (Utf8.decode s 0).2 = n at *
 have hr1 : (((r : Nat) : Int) == 65533) = false := by simp; omega
 clear hs hr
 have hb : Below w.heap.size w ((w.alloc (.cells #[.int .i32 0, .int .i64 0, .bool false] 23)).iter s (0 + n)) := ((Below.refl _ _).alloc (Nat.le_refl _) _).alloc (by simp) _
 have hg : ((w.alloc (.cells #[.int .i32 0, .int .i64 0, .bool false] 23)).iter s (0 + n)).heap[w.heap.size]? = some (.cells #[.int .i32 0, .int .i64 0, .bool false] 23 (0, 0)) := blk_alloc (blk_new w _) _
 have c0 := blk_cell hg 0
 have c1 := blk_cell hg 1
 have c2 := blk_cell hg 2
 have f0 := blk_frozen hg 0
 have f1 := blk_frozen hg 1
 have f2 := blk_frozen hg 2
 have HG := Aside0.mk hg
 have HB := Aside0.mk hb
 clear hg hb hL
 go_enter Tryd.func73, Tryd.ntmps73
 go_wp2
 generalize (w.alloc (.cells #[.int .i32 0, .int .i64 0, .bool false] 23)).iter s (0 + n) = W at *
 refine wp_loop_rounds 1 ?_
 rw [rounds_succ]
 go_wp2
 refine bodyPost_ret (results_cell_row rfl _ _ w.heap.size 23 #[.int .i32 r, .int .i64 ((Utf8.encode (r : Int)).size : Int), .bool true] (0, 0) _ rfl (blk_put3 _ _ _ HG.out) Tryd.underlying23 rfl (by kernel_rfl)) rfl ?_
 exact ⟨rfl, below_put3 HB.out (Nat.le_refl _) _ _ _⟩

theorem hasFD_of (s : ByteArray) : strings_HasPrefix.f s (⟨#[239, 191, 189]⟩ : ByteArray) = some (hasFD s) := by
 unfold strings_HasPrefix.f stringslite_HasPrefix.f hasFD
 have h3 : ((⟨#[239, 191, 189]⟩ : ByteArray).size : Int) = 3 := rfl
 rw [h3]
 by_cases h : 3 ≤ s.size
 ·rw [if_pos (by omega), if_pos (by omega), if_pos (by omega), decide_eq_true h]
  simp only [Option.bind_some, Bool.true_and]
  rw [show (⟨#[239, 191, 189]⟩ : ByteArray).toList = ([239, 191, 189] : List UInt8) by kernel_rfl]
  rfl
 ·rw [if_neg (by omega), decide_eq_false h]
  rfl
set_option maxRecDepth 100000 in
theorem step_first.fffd (s : ByteArray) (w : World) (hL : LaidBad w) (hs : 0 < s.size) (hr : (Utf8.decode s 0).1 = 65533) (hp : hasFD s = true) :
  Calls Tryd.prog 73 #[.string s] w fun e w' => e = .returned (.agg #[.int .i32 ((Utf8.decode s 0).1 : Int), .int .i64 ((Utf8.encode ((Utf8.decode s 0).1 : Int)).size : Int), .bool true]) ∧ Below w.heap.size w w' := by
 have hu := Tryd.underlying23
 have hu9 := Tryd.underlying9
 have hu21 := Tryd.underlying21
 have HP := Aside0.mk ((hasFD_of s).trans (congrArg some hp))
 have hnx := run_next_any (P := Tryd.prog) (w.alloc (.cells #[.int .i32 0, .int .i64 0, .bool false] 23)) s 0 0 hs
 simp only [World.size_alloc] at hnx
 generalize (Utf8.decode s 0).1 = r at *
 generalize (Utf8.decode s 0).2 = n at *
 have hr1 : (((r : Nat) : Int) == 65533) = true := by rw [hr]; rfl
 clear hs hr hp
 have hb : Below w.heap.size w ((w.alloc (.cells #[.int .i32 0, .int .i64 0, .bool false] 23)).iter s (0 + n)) := ((Below.refl _ _).alloc (Nat.le_refl _) _).alloc (by simp) _
 have hg : ((w.alloc (.cells #[.int .i32 0, .int .i64 0, .bool false] 23)).iter s (0 + n)).heap[w.heap.size]? = some (.cells #[.int .i32 0, .int .i64 0, .bool false] 23 (0, 0)) := blk_alloc (blk_new w _) _
 have c0 := blk_cell hg 0
 have c1 := blk_cell hg 1
 have c2 := blk_cell hg 2
 have f0 := blk_frozen hg 0
 have f1 := blk_frozen hg 1
 have f2 := blk_frozen hg 2
 have HG := Aside0.mk hg
 have HB := Aside0.mk hb
 clear hg hb hL
 go_enter Tryd.func73, Tryd.ntmps73
 go_wp2
 generalize (w.alloc (.cells #[.int .i32 0, .int .i64 0, .bool false] 23)).iter s (0 + n) = W at *
 refine wp_loop_rounds 1 ?_
 rw [rounds_succ]
 go_wp2_with (go_at_call 85; refine (strings_HasPrefix.calls s (⟨#[239, 191, 189]⟩ : ByteArray) true _ HP.out).mono ?_; rintro e w' ⟨rfl, ⟨nd, rfl⟩⟩)
 refine bodyPost_ret (results_cell_row rfl _ _ w.heap.size 23 #[.int .i32 r, .int .i64 ((Utf8.encode (r : Int)).size : Int), .bool true] (0, 0) _ rfl (blk_put3 _ _ _ (blk_drewN HG.out _)) Tryd.underlying23 rfl (by kernel_rfl)) rfl ?_
 exact ⟨rfl, below_put3 (pw_below_drewN HB.out _) (Nat.le_refl _) _ _ _⟩

set_option maxRecDepth 100000 in
theorem step_first.fffdbad (s : ByteArray) (w : World) (hL : LaidBad w) (hs : 0 < s.size) (hr : (Utf8.decode s 0).1 = 65533) (hp : hasFD s = false) :
  Calls Tryd.prog 73 #[.string s] w fun e w' => e = .returned (.agg #[.int .i32 65533, .int .i64 1, .bool false]) ∧ Below w.heap.size w w' := by
 have hu := Tryd.underlying23
 have hu9 := Tryd.underlying9
 have hu21 := Tryd.underlying21
 have HP := Aside0.mk ((hasFD_of s).trans (congrArg some hp))
 have hnx := run_next_any (P := Tryd.prog) (w.alloc (.cells #[.int .i32 0, .int .i64 0, .bool false] 23)) s 0 0 hs
 simp only [World.size_alloc] at hnx
 generalize (Utf8.decode s 0).1 = r at *
 generalize (Utf8.decode s 0).2 = n at *
 have hr1 : (((r : Nat) : Int) == 65533) = true := by rw [hr]; rfl
 clear hs hr hp
 have hb : Below w.heap.size w ((w.alloc (.cells #[.int .i32 0, .int .i64 0, .bool false] 23)).iter s (0 + n)) := ((Below.refl _ _).alloc (Nat.le_refl _) _).alloc (by simp) _
 obtain ⟨h0, h1, h2⟩ := laid_cell (laid_below hL hb)
 have hg : ((w.alloc (.cells #[.int .i32 0, .int .i64 0, .bool false] 23)).iter s (0 + n)).heap[w.heap.size]? = some (.cells #[.int .i32 0, .int .i64 0, .bool false] 23 (0, 0)) := blk_alloc (blk_new w _) _
 have c0 := blk_cell hg 0
 have c1 := blk_cell hg 1
 have c2 := blk_cell hg 2
 have f0 := blk_frozen hg 0
 have f1 := blk_frozen hg 1
 have f2 := blk_frozen hg 2
 have HG := Aside0.mk hg
 have HB := Aside0.mk hb
 clear hg hb hL
 go_enter Tryd.func73, Tryd.ntmps73
 go_wp2
 generalize (w.alloc (.cells #[.int .i32 0, .int .i64 0, .bool false] 23)).iter s (0 + n) = W at *
 refine wp_loop_rounds 1 ?_
 rw [rounds_succ]
 go_wp2_with (go_at_call 85; refine (strings_HasPrefix.calls s (⟨#[239, 191, 189]⟩ : ByteArray) false _ HP.out).mono ?_; rintro e w' ⟨rfl, ⟨nd, rfl⟩⟩)
 refine bodyPost_ret (results_cell_row rfl _ _ w.heap.size 23 #[.int .i32 65533, .int .i64 1, .bool false] (0, 0) _ rfl (blk_put3 _ _ _ (blk_drewN HG.out _)) Tryd.underlying23 rfl (by kernel_rfl)) rfl ?_
 exact ⟨rfl, below_put3 (pw_below_drewN HB.out _) (Nat.le_refl _) _ _ _⟩

theorem step_first.calls (a0 : ByteArray) (r1 r2 : Int) (r3 : Bool) (w : World) (hL : LaidBad w) (h : step_first.f a0 = some (r1, r2, r3)) :
  Calls Tryd.prog 73 #[.string a0] w fun e w' => e = .returned (.agg #[.int .i32 r1, .int .i64 r2, .bool r3]) ∧ Below w.heap.size w w' := by
 have h := Option.some.inj h
 unfold firstOf at h
 by_cases h0 : a0.size = 0
 ·rw [if_pos h0] at h
  cases h
  exact step_first.bad a0 w hL h0
 ·rw [if_neg h0] at h
  by_cases h1 : (Utf8.decode a0 0).1 = 65533
  ·rw [if_pos h1] at h
   cases hp : hasFD a0 with
   | true =>
    rw [hp, if_pos rfl] at h
    cases h
    have := step_first.fffd a0 w hL (by omega) h1 hp
    rw [h1] at this
    exact this
   | false =>
    rw [hp, if_neg (by decide)] at h
    cases h
    exact step_first.fffdbad a0 w hL (by omega) h1 hp
  ·rw [if_neg h1] at h
   cases h
   exact step_first.whole a0 w hL (by omega) h1

end Go.Proofs.YtijbkiajhicooaaDoor.PW

namespace Go.Proofs.YtijbkiajhicooaaDoor.PW
open Go.RowKit Go.Proofs.YtijbkiajhicooaaDoorW.PrintWords Go.Proofs.YtijbkiajhicooaaDoorW.PrintLast Go.Proofs.YtijbkiajhicooaaDoorW.PrintMore
attribute [local go_sem] max2_int min2_int max_two min_two max_three min_three max_four min_four   -- for this text's walks alone
set_option linter.unusedVariables false
set_option linter.unusedSimpArgs false

/-- A set in memory. -/
def IsSet (W : World) (g : Nat) (s : ByteArray) (l : List S100) : Prop := ∃ A c, W.heap[g]? = some (.cells #[.string s, .slice A l.length c] 103 (0, 0)) ∧ Kd.C k100 W A l.length l ∧ l.length ≤ c
theorem IsSet.below {W W' : World} {g : Nat} {s : ByteArray} {l : List S100} (h : IsSet W g s l) (hb : Below W.heap.size W W') : IsSet W' g s l := by
 obtain ⟨A, c, h1, h2, h3⟩ := h
 exact ⟨A, c, blk_below h1 hb, Kd.C_below h2 hb, h3⟩
set_option maxRecDepth 100000 in
set_option maxHeartbeats 4000000 in
theorem clone_calls (A0 : Option Addr) (c0 : Nat) (l0 : List S100) (w : World) (hr0 : Kd.C k100 w A0 l0.length l0) (hlim : l0.length ≤ 1099511627776) :
  Calls Tryd.prog 63 #[.slice A0 l0.length c0] w fun e w' => ∃ v : Value, e = .returned v ∧ Kd.R k100 100 w' w.heap.size (fun _ => True) v l0 ∧ Below w.heap.size w w' := by
 have HR := Aside0.mk hr0
 have HL := Aside0.mk hlim
 have HLn := Aside0.mk (Kd.C_len hr0)
 clear hr0 hlim
 cases A0 with
 | none =>
  have hn : l0 = [] := by
   have := HR.out
   cases l0 with
   | nil => rfl
   | cons x t => exact absurd (this.2.2 (by simp)) (by simp)
  subst hn
  have hq : ∀ W : World, (binOp .eql 62 (.slice none 0 c0) (.slice none 0 0)).run Tryd.prog W = .ok (.bool true) W := fun W => by first | (simp [binOp, go_sem, run_underlying Tryd.underlying62]; done) | kernel_rfl
  go_enter Tryd.func63, Tryd.ntmps63
  go_wp2
  go_ret
  exact ⟨_, rfl, Kd.R_nil _ _ _ _ _, Below.refl _ _⟩
 | some ad =>
  have hq : ∀ W : World, (binOp .eql 62 (.slice (some ad) l0.length c0) (.slice none 0 0)).run Tryd.prog W = .ok (.bool false) W := fun W => by first | (simp [binOp, go_sem, run_underlying Tryd.underlying62]; done) | kernel_rfl
  go_enter Tryd.func63, Tryd.ntmps63
  go_wp2_with (first | ((with_reducible refine gate_dst (N := 5) rfl ?_); refine Kd.R_lit k100 _ 100 ?hg (N := 5) ?hd (xs := ([] : List S100)) (inner := []) (ok := fun _ => True) (okp := fun _ => True) ?hr ?hp (fun _ hk => hk) trivial (Below.refl _ _) (Nat.le_refl _) (by simp) ?_; (case hd => rfl); (case hg => rfl); (case hr => first | (go_simp; done) | (go_simp; rfl)); (case hp => exact (Reps.none _ _)); intro v5 w5 ho hb hg_ hnew_; have HO := Aside0.mk ho; have HB := Aside0.mk hb; clear hg_ hnew_ ho hb) | ((with_reducible refine gate_builtin (b := .append) (xs := #[.tmp 5, .tmp 6]) rfl ?_); at_builtin; refine Kd.R_append_rows k100 (w0 := w) w.heap.size rfl (.tmp 5) (.tmp 6) 62 100 (.agg #[(.int .i64 0), (.int .i64 0)]) 16 rfl Tryd.underlying62 info100 rfl (by decide) (by omega) v5 ([] : List S100) l0 _ _ _ (fun _ => True) (fun _ => False) rfl rfl ?aO ?aR (fun _ _ h => h) (fun _ h => h.elim) ?aF ?aB ?aS ?aL ?_; (case aR => exact Kd.C_below HR.out HB.out); (case aB => exact HB.out); (case aF => exact fun _ _ => trivial); (case aO => exact HO.out); (case aS => exact HB.out.size); (case aL => have := HL.out; simp; omega); intro v7 w7 ho hb hg hat; have HO7 := Aside0.mk ho; have HB7 := Aside0.mk hb; clear ho hb hg hat))
  go_ret
  exact ⟨_, rfl, HO7.out, HB7.out⟩

end Go.Proofs.YtijbkiajhicooaaDoor.PW

namespace Go.Proofs.YtijbkiajhicooaaDoor.PW
open Go.RowKit Go.Proofs.YtijbkiajhicooaaDoorW.PrintWords Go.Proofs.YtijbkiajhicooaaDoorW.PrintLast Go.Proofs.YtijbkiajhicooaaDoorW.PrintMore
attribute [local go_sem] max2_int min2_int max_two min_two max_three min_three max_four min_four   -- for this text's walks alone
set_option linter.unusedVariables false
set_option linter.unusedSimpArgs false

set_option maxRecDepth 100000 in
set_option maxHeartbeats 4000000 in
theorem list_calls (g : Nat) (s : ByteArray) (l0 : List S100) (w : World) (hs : IsSet w g s l0) (hlim : l0.length ≤ 1099511627776) :
  Calls Tryd.prog 32 #[.pointer (some ⟨g, 0, none⟩)] w fun e w' => ∃ v : Value, e = .returned v ∧ Kd.R k100 100 w' w.heap.size (fun _ => True) v l0 ∧ Below w.heap.size w w' := by
 obtain ⟨A0, c0, h1, h2, h3⟩ := hs
 have c1 := blk_cell h1 1
 have HR := Aside0.mk h2
 have HL := Aside0.mk hlim
 have hu := Tryd.underlying103
 have hq : ∀ W : World, (binOp .eql 52 (.pointer (some ⟨g, 0, none⟩)) (.pointer none)).run Tryd.prog W = .ok (.bool false) W := fun W => by first | (simp [binOp, go_sem, run_underlying Tryd.underlying52]; done) | kernel_rfl
 clear h1 h2 hlim h3
 go_enter Tryd.func32, Tryd.ntmps32
 go_wp2_with fail
 refine (clone_calls A0 c0 l0 _ HR.out HL.out).mono ?_
 rintro e w' ⟨v, rfl, hv, hb⟩
 have HV := Aside0.mk hv
 have HB := Aside0.mk hb
 clear hv hb
 go_wp2
 go_ret
 exact ⟨_, rfl, HV.out, HB.out⟩
set_option maxRecDepth 100000 in
theorem list_nil (w : World) : Calls Tryd.prog 32 #[.pointer none] w fun e w' => e = .returned (.slice none 0 0) ∧ Below w.heap.size w w' := by
 have hq : ∀ W : World, (binOp .eql 52 (.pointer none) (.pointer none)).run Tryd.prog W = .ok (.bool true) W := fun W => by first | (simp [binOp, go_sem, run_underlying Tryd.underlying52]; done) | kernel_rfl
 go_enter Tryd.func32, Tryd.ntmps32
 go_wp2
 go_ret
 exact ⟨rfl, Below.refl _ _⟩

end Go.Proofs.YtijbkiajhicooaaDoor.PW

namespace Go.Proofs.YtijbkiajhicooaaDoor.PW
open Go.RowKit Go.Proofs.YtijbkiajhicooaaDoorW.PrintWords Go.Proofs.YtijbkiajhicooaaDoorW.PrintLast Go.Proofs.YtijbkiajhicooaaDoorW.PrintMore
attribute [local go_sem] max2_int min2_int max_two min_two max_three min_three max_four min_four   -- for this text's walks alone
set_option linter.unusedVariables false
set_option linter.unusedSimpArgs false

def step_at.f (l0 : List Int) (a1 : Int) : Option (Int × Int × Bool) := if 0 ≤ a1 then (if a1 ≤ (mn (wrap64 (a1 + 4)) (l0.length : Int)) then (if (mn (wrap64 (a1 + 4)) (l0.length : Int)) ≤ (l0.length : Int) then ((step_first.f (strOfNums ((l0.take ((mn (wrap64 (a1 + 4)) (l0.length : Int)) : Int).toNat).drop (a1 : Int).toNat))).bind fun bt114 => (some (bt114.1, bt114.2.1, bt114.2.2))) else (none)) else (none)) else (none)
set_option maxHeartbeats 8000000 in
set_option maxRecDepth 100000 in
theorem step_at.calls (A0 : Option Addr) (c0 : Nat) (l0 : List Int) (a1 : Int) (r1 : Int) (r2 : Int) (r3 : Bool) (w : World) (hr0 : Kd.C (Kd.int .u8) w A0 l0.length l0) (hc0 : l0.length ≤ c0) (hL : LaidBad w) (h : step_at.f l0 a1 = some (r1, r2, r3)) :
  Calls Tryd.prog 83 #[.slice A0 l0.length c0, .int .i64 a1] w fun e w' => e = .returned (.agg #[.int .i32 r1, .int .i64 r2, .bool r3]) ∧ Below w.heap.size w w' := by
 have HR := Aside0.mk hr0
 unfold step_at.f at h
 by_cases g0 : 0 ≤ a1
 ·rw [if_pos g0] at h
  obtain ⟨m, hm⟩ : ∃ m : Int, mn (wrap64 (a1 + 4)) (l0.length : Int) = m := ⟨_, rfl⟩
  rw [hm] at h
  by_cases g1 : a1 ≤ m
  ·rw [if_pos g1] at h
   by_cases g2 : m ≤ (l0.length : Int)
   ·rw [if_pos g2] at h
    have hf : step_first.f (strOfNums ((l0.take m.toNat).drop a1.toNat)) = some (r1, r2, r3) := h
    obtain ⟨i0, hi0, _, hsz0, _⟩ := info_parts info5
    obtain ⟨A9, hcut, hA9, hC9⟩ := print_mid_of (P := Tryd.prog) (Value.int .u8) 0 29 5 .i64 .i64 Tryd.underlying29 hi0 hsz0 A0 c0 l0 a1 m g0 g1 g2 hc0
    have hr9 : Kd.C (Kd.int .u8) w A9 ((l0.take m.toNat).drop a1.toNat).length ((l0.take m.toNat).drop a1.toNat) := Kd.C_of_reads (h1 := fun _ => rfl) (hA9 _ (Kd.reads_of_C HR.out))
    have hcv := Kd.C_string (P := Tryd.prog) (A := A9) (c := (c0 - a1.toNat)) Tryd.underlying29 Tryd.underlying5 Tryd.underlying9 (Kd.C_alloc hr9 (.cells #[.int .i32 0, .int .i64 0, .bool false] 23))
    have hm_ : (if (l0.length : Int) < (wrap64 (a1 + 4)) then (l0.length : Int) else (wrap64 (a1 + 4))) = m := hm
    have hu := Tryd.underlying23
    have hb : Below w.heap.size w (w.alloc (.cells #[.int .i32 0, .int .i64 0, .bool false] 23)) := below_alloc (Below.refl _ _) _
    have hL1 := laid_below hL hb
    have HG := Aside0.mk (blk_new w (.cells #[.int .i32 0, .int .i64 0, .bool false] 23))
    have HB := Aside0.mk hb
    have HF := Aside0.mk hf
    clear hA9 hC9 hr9 h hf hL hb hi0 hsz0 hr0 hm
    generalize strOfNums ((l0.take m.toNat).drop a1.toNat) = s at *
    generalize ((l0.take m.toNat).drop a1.toNat).length = n9 at *
    replace g0 := eq_true g0
    replace g1 := eq_true g1
    replace g2 := eq_true g2
    go_enter Tryd.func83, Tryd.ntmps83
    go_wp2_with fail
    refine (step_first.calls s r1 r2 r3 _ hL1 HF.out).mono ?_
    rintro e w2 ⟨rfl, hb2⟩
    have hg2 := blk_below HG.out hb2
    have c0 := blk_cell hg2 0
    have c1 := blk_cell hg2 1
    have c2 := blk_cell hg2 2
    have f0 := blk_frozen hg2 0
    have f1 := blk_frozen hg2 1
    have f2 := blk_frozen hg2 2
    have HG2 := Aside0.mk hg2
    have HB2 := Aside0.mk (below_step HB.out hb2)
    clear hg2 hb2
    go_wp2
    refine bodyPost_ret (results_cell_row rfl _ _ w.heap.size 23 #[.int .i32 r1, .int .i64 r2, .bool r3] (0, 0) _ rfl (blk_put3 _ _ _ HG2.out) Tryd.underlying23 rfl (by kernel_rfl)) rfl ?_
    exact ⟨rfl, below_put3 HB2.out (Nat.le_refl _) _ _ _⟩
   ·rw [if_neg g2] at h
    cases h
  ·rw [if_neg g1] at h
   cases h
 ·rw [if_neg g0] at h
  cases h

end Go.Proofs.YtijbkiajhicooaaDoor.PW

namespace Go.Proofs.YtijbkiajhicooaaDoor.PW
open Go.RowKit Go.Proofs.YtijbkiajhicooaaDoorW.PrintWords Go.Proofs.YtijbkiajhicooaaDoorW.PrintLast Go.Proofs.YtijbkiajhicooaaDoorW.PrintMore
attribute [local go_sem] max2_int min2_int max_two min_two max_three min_three max_four min_four   -- for this text's walks alone
set_option linter.unusedVariables false
set_option linter.unusedSimpArgs false

mutual
def step_inside.l0 : Nat → List Int → Int → Int → Option (Int)
 | 0, _, _, _ => none
 | k + 1, x0, x1, x5 => if x5 ≤ 3 then (step_inside.j1 k x0 x1 x5 (decide (x5 ≤ x1))) else (step_inside.j1 k x0 x1 x5 false)
def step_inside.j1 : Nat → List Int → Int → Int → Bool → Option (Int)
 | 0, _, _, _, _ => none
 | k + 1, x0, x1, x5, x12 => if x12 = true then ((step_at.f x0 (wrap64 (x1 - x5))).bind fun bt117 => (if bt117.2.1 > x5 then (some x5) else (step_inside.l0 k x0 x1 (wrap64 (x5 + 1))))) else (some 0)
end
def step_inside.f (k : Nat) (l0 : List Int) (a1 : Int) : Option (Int) := step_inside.l0 k l0 a1 1
set_option maxHeartbeats 8000000 in
set_option maxRecDepth 100000 in
theorem step_inside.calls (k : Nat) (A0 : Option Addr) (c0 : Nat) (l0 : List Int) (a1 : Int) (r : Int) (w : World) (hr0 : Kd.C (Kd.int .u8) w A0 l0.length l0) (hc0 : l0.length ≤ c0) (hL : LaidBad w) (h : step_inside.f k l0 a1 = some r) :
  Calls Tryd.prog 82 #[.slice A0 l0.length c0, .int .i64 a1] w fun e w' => e = .returned (.int .i64 r) ∧ Below w.heap.size w w' := by
 have hfd23_1 : ∀ (x0_ : Int) (x1_ : Int) (x2_ : Bool) (w : World), (Instr.field 23 (.agg #[.int .i32 x0_, .int .i64 x1_, .bool x2_]) 1).run Tryd.prog w = .ok (.int .i64 x1_) w := by intros; kernel_rfl
 have HR0 := Aside0.mk hr0
 have HC0 := Aside0.mk hc0
 clear hr0 hc0
 have HB := Aside0.mk (Below.refl w.heap.size w)
 have HLB := Aside0.mk hL
 clear hL
 have H : (step_inside.l0 k l0 a1 1) = some r := h
 clear h
 have H' := Aside0.mk H
 clear H
 go_enter Tryd.func82, Tryd.ntmps82
 go_wp2
 go_loopg [5] k (fun kq v5 w' => ∃ (x5_1 : Int), v5 = .int .i64 x5_1 ∧ Aside0 (step_inside.l0 kq l0 a1 x5_1 = some r) ∧ Aside0 (kq ≤ k) ∧ Aside0 (Below w.heap.size w w'))
 case atStart => exact ⟨(1), (by first | rfl | (simp; done) | (simp [*]; done)), H', ⟨Nat.le_refl _⟩, ⟨by repeat (first | (with_reducible first | exact HB.out | apply below_alloc | apply pw_below_drewN | apply below_drew1) | exact HB.out)⟩⟩
 case round =>
  clear H'
  try clear p2
  obtain ⟨x5_1, rfl, HA, HK1, HB⟩ := hrel
  cases gk with
  | zero => exact absurd HA.out (by simp [step_inside.l0])
  | succ k1 =>
   have H := HA.out
   clear HA
   simp only [step_inside.l0] at H
   have HC3 := Aside0.mk H
   clear H
   go_upto_region 2 with (fail)
   go_cut [12] (fun v12 wc => ∃ (kq : Nat) (x12_2 : Bool), v12 = .bool x12_2 ∧ Aside0 (step_inside.j1 kq l0 a1 x5_1 x12_2 = some r) ∧ Aside0 (kq ≤ k1) ∧ Aside0 (Below w.heap.size w wc))
   case first =>
    have H := HC3.out
    clear HC3
    by_cases c4 : x5_1 ≤ 3
    ·rw [if_pos c4] at H
     have c4b0 : decide (x5_1 ≤ 3) = true := decide_eq_true c4
     clear c4
     (first | rw [c4b0] | (simp only [i64_w, i32_w]; rw [c4b0]) | skip)
     have H' := Aside0.mk H
     clear H
     go_wp2
     go_meet
     case rel => exact ⟨_, (decide (x5_1 ≤ a1)), (by first | rfl | (simp; done) | (simp [*]; done)), H', ⟨by have := HK1.out; first | omega | exact Nat.le_refl _⟩, ⟨by repeat (first | (with_reducible first | exact HB.out | apply below_alloc | apply pw_below_drewN | apply below_drew1) | exact HB.out)⟩⟩
    ·rw [if_neg c4] at H
     have c4b0 : decide (x5_1 ≤ 3) = false := decide_eq_false c4
     clear c4
     (first | rw [c4b0] | (simp only [i64_w, i32_w]; rw [c4b0]) | skip)
     have H' := Aside0.mk H
     clear H
     go_wp2
     go_meet
     case rel => exact ⟨_, (false), (by first | rfl | (simp; done) | (simp [*]; done)), H', ⟨by have := HK1.out; first | omega | exact Nat.le_refl _⟩, ⟨by repeat (first | (with_reducible first | exact HB.out | apply below_alloc | apply pw_below_drewN | apply below_drew1) | exact HB.out)⟩⟩
   case rest =>
    clear HC3
    try clear p2
    try clear c4
    try clear c4b0
    try clear p2
    obtain ⟨kq, x12_2, rfl, HA, HJ2, HB⟩ := hcut
    cases kq with
    | zero => exact absurd HA.out (by simp [step_inside.j1])
    | succ kj2 =>
     have H := HA.out
     clear HA
     simp only [step_inside.j1] at H
     by_cases c5 : x12_2 = true
     ·subst c5
      have H1 : ((step_at.f l0 (wrap64 (a1 - x5_1))).bind fun bt117 => (if bt117.2.1 > x5_1 then (some x5_1) else (step_inside.l0 kj2 l0 a1 (wrap64 (x5_1 + 1))))) = some r := by rw [if_pos rfl] at H; exact H
      clear H
      have H := H1
      clear H1
      replace H := Option.bind_eq_some_iff.mp H
      obtain ⟨⟨t117, t118, t119⟩, A60, H⟩ := H
      replace H : (if t118 > x5_1 then (some x5_1) else (step_inside.l0 kj2 l0 a1 (wrap64 (x5_1 + 1)))) = some r := H
      have A6 := Aside0.mk A60
      clear A60
      by_cases c7 : t118 > x5_1
      ·rw [if_pos c7] at H
       have c7b0 : decide (x5_1 < t118) = true := decide_eq_true c7
       clear c7
       obtain rfl := Option.some.inj H
       go_wp2_with (first | ((with_reducible refine gate_callee (f := 83) rfl ?_); refine goesL_ (some 19) rfl rfl Tryd.func83 (by kernel_rfl) rfl #[.slice A0 l0.length c0, .int .i64 (wrap64 (a1 - x5_1))] rfl (by (try simp only [List.map_toArray, List.map_cons, List.map_nil]); first | done | rfl | (simp only [List.length_drop, List.length_take]; rfl)) ?_; (with_reducible refine (step_at.calls _ _ l0 (wrap64 (a1 - x5_1)) t117 t118 t119 _ ?side1 ?side2 ?side3 A6.out).mono ?_); (case side1 => repeat (first | exact (Kd.C_below HR0.out HB.out) | (with_reducible refine Kd.C_alloc ?_ _) | (with_reducible refine Kd.C_drewN ?_ _) | (with_reducible refine Kd.C_drew ?_))); (case side2 => exact HC0.out); (case side3 => exact laid_below HLB.out (by repeat (first | (with_reducible first | exact HB.out | apply below_alloc | apply pw_below_drewN | apply below_drew1) | exact HB.out))); rintro e w8 ⟨rfl, hb⟩; refine ⟨_, rfl, ?_⟩; have n0_ := Aside0.mk (below_step (by repeat (first | (with_reducible first | exact HB.out | apply below_alloc | apply pw_below_drewN | apply below_drew1) | exact HB.out)) hb); clear HB; have HB := n0_; clear n0_; (try clear hb); (try clear hb2); (try clear hk); (try clear hi)))
       go_ret
       exact ⟨by first | rfl | (simp [errW_none, errW_some] <;> rfl) | (simp [*, errW_none, errW_some] <;> rfl), by repeat (first | (with_reducible first | exact HB.out | apply below_alloc | apply pw_below_drewN | apply below_drew1) | exact HB.out)⟩
      ·rw [if_neg c7] at H
       have c7b0 : decide (x5_1 < t118) = false := decide_eq_false c7
       clear c7
       have H' := Aside0.mk H
       clear H
       go_wp2_with (first | ((with_reducible refine gate_callee (f := 83) rfl ?_); refine goesL_ (some 19) rfl rfl Tryd.func83 (by kernel_rfl) rfl #[.slice A0 l0.length c0, .int .i64 (wrap64 (a1 - x5_1))] rfl (by (try simp only [List.map_toArray, List.map_cons, List.map_nil]); first | done | rfl | (simp only [List.length_drop, List.length_take]; rfl)) ?_; (with_reducible refine (step_at.calls _ _ l0 (wrap64 (a1 - x5_1)) t117 t118 t119 _ ?side1 ?side2 ?side3 A6.out).mono ?_); (case side1 => repeat (first | exact (Kd.C_below HR0.out HB.out) | (with_reducible refine Kd.C_alloc ?_ _) | (with_reducible refine Kd.C_drewN ?_ _) | (with_reducible refine Kd.C_drew ?_))); (case side2 => exact HC0.out); (case side3 => exact laid_below HLB.out (by repeat (first | (with_reducible first | exact HB.out | apply below_alloc | apply pw_below_drewN | apply below_drew1) | exact HB.out))); rintro e w9 ⟨rfl, hb⟩; refine ⟨_, rfl, ?_⟩; have n0_ := Aside0.mk (below_step (by repeat (first | (with_reducible first | exact HB.out | apply below_alloc | apply pw_below_drewN | apply below_drew1) | exact HB.out)) hb); clear HB; have HB := n0_; clear n0_; (try clear hb); (try clear hb2); (try clear hk); (try clear hi)))
       go_roundg kj2
       case measure => have := HK1.out; have := HJ2.out; omega
       case rel => exact ⟨(wrap64 (x5_1 + 1)), (by first | rfl | (simp; done) | (simp [*]; done)), H', ⟨by have := HK1.out; have := HJ2.out; omega⟩, ⟨by repeat (first | (with_reducible first | exact HB.out | apply below_alloc | apply pw_below_drewN | apply below_drew1) | exact HB.out)⟩⟩
     ·replace c5 := Bool.eq_false_iff.mpr c5
      subst c5
      have H1 : (some 0) = some r := by rw [if_neg (show ¬ (false = true) by decide)] at H; exact H
      clear H
      have H := H1
      clear H1
      obtain rfl := Option.some.inj H
      go_wp2
      go_ret
      exact ⟨by first | rfl | (simp [errW_none, errW_some] <;> rfl) | (simp [*, errW_none, errW_some] <;> rfl), by repeat (first | (with_reducible first | exact HB.out | apply below_alloc | apply pw_below_drewN | apply below_drew1) | exact HB.out)⟩

end Go.Proofs.YtijbkiajhicooaaDoor.PW

namespace Go.Proofs.YtijbkiajhicooaaDoor.PW
open Go.RowKit Go.Proofs.YtijbkiajhicooaaDoorW.PrintWords Go.Proofs.YtijbkiajhicooaaDoorW.PrintLast Go.Proofs.YtijbkiajhicooaaDoorW.PrintMore
attribute [local go_sem] max2_int min2_int max_two min_two max_three min_three max_four min_four   -- for this text's walks alone
set_option linter.unusedVariables false
set_option linter.unusedSimpArgs false

def step_Floor.f (k : Nat) (l0 : List Int) (a1 : Int) : Option (Int × Int) := if a1 < 0 then (some (0, 2)) else (if a1 > (l0.length : Int) then (some (0, 2)) else ((step_inside.f k l0 a1).bind fun t120 => (some (wrap64 (a1 - t120), 0))))
set_option maxHeartbeats 8000000 in
set_option maxRecDepth 100000 in
theorem step_Floor.calls (k : Nat) (A0 : Option Addr) (c0 : Nat) (l0 : List Int) (a1 : Int) (r1 : Int) (r2 : Int) (w : World) (hr0 : Kd.C (Kd.int .u8) w A0 l0.length l0) (hc0 : l0.length ≤ c0) (hL : LaidBad w) (h : step_Floor.f k l0 a1 = some (r1, r2)) :
  Calls Tryd.prog 67 #[.slice A0 l0.length c0, .int .i64 a1] w fun e w' => e = .returned (.tuple #[.int .i64 r1, .int .i64 r2]) ∧ Below w.heap.size w w' := by
 have HR0 := Aside0.mk hr0
 have HC0 := Aside0.mk hc0
 clear hr0 hc0
 have HB := Aside0.mk (Below.refl w.heap.size w)
 have HLB := Aside0.mk hL
 clear hL
 have H : (if a1 < 0 then (some (0, 2)) else (if a1 > (l0.length : Int) then (some (0, 2)) else ((step_inside.f k l0 a1).bind fun t120 => (some (wrap64 (a1 - t120), 0))))) = some (r1, r2) := h
 clear h
 by_cases c3 : a1 < 0
 ·rw [if_pos c3] at H
  have c3b0 : decide (a1 < 0) = true := decide_eq_true c3
  clear c3
  simp only [Option.some.injEq, Prod.mk.injEq] at H
  obtain ⟨rfl, rfl⟩ := H
  go_enter Tryd.func67, Tryd.ntmps67
  go_wp2
  go_ret2
  exact ⟨by first | rfl | (simp [errW_none, errW_some] <;> rfl) | (simp [*, errW_none, errW_some] <;> rfl), by repeat (first | (with_reducible first | exact HB.out | apply below_alloc | apply pw_below_drewN | apply below_drew1) | exact HB.out)⟩
 ·rw [if_neg c3] at H
  have c3b0 : decide (a1 < 0) = false := decide_eq_false c3
  clear c3
  by_cases c4 : a1 > (l0.length : Int)
  ·rw [if_pos c4] at H
   have c4b0 : decide ((l0.length : Int) < a1) = true := decide_eq_true c4
   clear c4
   simp only [Option.some.injEq, Prod.mk.injEq] at H
   obtain ⟨rfl, rfl⟩ := H
   go_enter Tryd.func67, Tryd.ntmps67
   go_wp2
   go_ret2
   exact ⟨by first | rfl | (simp [errW_none, errW_some] <;> rfl) | (simp [*, errW_none, errW_some] <;> rfl), by repeat (first | (with_reducible first | exact HB.out | apply below_alloc | apply pw_below_drewN | apply below_drew1) | exact HB.out)⟩
  ·rw [if_neg c4] at H
   have c4b0 : decide ((l0.length : Int) < a1) = false := decide_eq_false c4
   clear c4
   replace H := Option.bind_eq_some_iff.mp H
   obtain ⟨t120, A50, H⟩ := H
   replace H : (some (wrap64 (a1 - t120), 0)) = some (r1, r2) := H
   have A5 := Aside0.mk A50
   clear A50
   simp only [Option.some.injEq, Prod.mk.injEq] at H
   obtain ⟨rfl, rfl⟩ := H
   go_enter Tryd.func67, Tryd.ntmps67
   go_wp2_with (first | ((with_reducible refine gate_callee (f := 82) rfl ?_); refine goesL_ (some 17) rfl rfl Tryd.func82 (by kernel_rfl) rfl #[.slice A0 l0.length c0, .int .i64 a1] rfl (by (try simp only [List.map_toArray, List.map_cons, List.map_nil]); first | done | rfl | (simp only [List.length_drop, List.length_take]; rfl)) ?_; (with_reducible refine (step_inside.calls k _ _ l0 a1 t120 _ ?side1 ?side2 ?side3 A5.out).mono ?_); (case side1 => repeat (first | exact HR0.out | (with_reducible refine Kd.C_alloc ?_ _) | (with_reducible refine Kd.C_drewN ?_ _) | (with_reducible refine Kd.C_drew ?_))); (case side2 => exact HC0.out); (case side3 => exact laid_below HLB.out (by repeat (first | (with_reducible first | exact HB.out | apply below_alloc | apply pw_below_drewN | apply below_drew1) | exact HB.out))); rintro e w6 ⟨rfl, hb⟩; refine ⟨_, rfl, ?_⟩; have n0_ := Aside0.mk (below_step (by repeat (first | (with_reducible first | exact HB.out | apply below_alloc | apply pw_below_drewN | apply below_drew1) | exact HB.out)) hb); clear HB; have HB := n0_; clear n0_; (try clear hb); (try clear hb2); (try clear hk); (try clear hi)))
   go_ret2
   exact ⟨by first | rfl | (simp [errW_none, errW_some] <;> rfl) | (simp [*, errW_none, errW_some] <;> rfl), by repeat (first | (with_reducible first | exact HB.out | apply below_alloc | apply pw_below_drewN | apply below_drew1) | exact HB.out)⟩

end Go.Proofs.YtijbkiajhicooaaDoor.PW

namespace Go.Proofs.YtijbkiajhicooaaDoor.PW
open Go.RowKit Go.Proofs.YtijbkiajhicooaaDoorW.PrintWords Go.Proofs.YtijbkiajhicooaaDoorW.PrintLast Go.Proofs.YtijbkiajhicooaaDoorW.PrintMore
attribute [local go_sem] max2_int min2_int max_two min_two max_three min_three max_four min_four   -- for this text's walks alone
set_option linter.unusedVariables false
set_option linter.unusedSimpArgs false

mutual
def step_Before.j0 : Nat → List Int → Int → Bool → Option (Int × Int × Bool × Int)
 | 0, _, _, _ => none
 | k + 1, x0, x1, x8 => if x8 = true then (some (0, 0, false, 2)) else (if x1 < (x0.length : Int) then ((step_inside.f k x0 x1).bind fun t122 => (step_Before.j1 k x0 x1 (decide (t122 > 0)))) else (step_Before.j1 k x0 x1 false))
def step_Before.j1 : Nat → List Int → Int → Bool → Option (Int × Int × Bool × Int)
 | 0, _, _, _ => none
 | k + 1, x0, x1, x18 => if x18 = true then (some (0, 0, false, 4)) else ((step_Floor.f k x0 (wrap64 (x1 - 1))).bind fun bt123 => ((step_at.f x0 bt123.1).bind fun bt125 => (some (bt125.1, bt125.2.1, bt125.2.2, 0))))
end
def step_Before.f (k : Nat) (l0 : List Int) (a1 : Int) : Option (Int × Int × Bool × Int) := if a1 < 1 then (step_Before.j0 k l0 a1 true) else (step_Before.j0 k l0 a1 (decide (a1 > (l0.length : Int))))
set_option maxHeartbeats 8000000 in
set_option maxRecDepth 100000 in
theorem step_Before.calls (k : Nat) (A0 : Option Addr) (c0 : Nat) (l0 : List Int) (a1 : Int) (r1 : Int) (r2 : Int) (r3 : Bool) (r4 : Int) (w : World) (hr0 : Kd.C (Kd.int .u8) w A0 l0.length l0) (hc0 : l0.length ≤ c0) (hL : LaidBad w) (h : step_Before.f k l0 a1 = some (r1, r2, r3, r4)) :
  Calls Tryd.prog 62 #[.slice A0 l0.length c0, .int .i64 a1] w fun e w' => e = .returned (.tuple #[.agg #[.int .i32 r1, .int .i64 r2, .bool r3], .int .i64 r4]) ∧ Below w.heap.size w w' := by
 have hu23 := Tryd.underlying23
 have HR0 := Aside0.mk hr0
 have HC0 := Aside0.mk hc0
 clear hr0 hc0
 have HB := Aside0.mk (Below.refl w.heap.size w)
 have HLB := Aside0.mk hL
 clear hL
 have H : (if a1 < 1 then (step_Before.j0 k l0 a1 true) else (step_Before.j0 k l0 a1 (decide (a1 > (l0.length : Int))))) = some (r1, r2, r3, r4) := h
 clear h
 have HC3 := Aside0.mk H
 clear H
 go_enter Tryd.func62, Tryd.ntmps62
 go_upto_region 1 with (first | ((with_reducible refine gate_dst (N := 4) rfl ?_); (try (refine gate_guard (by rfl) ?_; dsimp only)); refine box_event ?hg (N := 4) ?hd (cs := #[.int .i32 0, .int .i64 0, .bool false]) (t := 23) ?hr ?_; (case hd => rfl); (case hg => rfl); (case hr => first | (go_simp; done) | (go_simp; rfl)); intro gb121 hg w4 hbox hb; have n0_ := Aside0.mk (below_step (by repeat (first | (with_reducible first | exact HB.out | apply below_alloc | apply pw_below_drewN | apply below_drew1) | exact HB.out)) hb); have n1_ := Aside0.mk (hbox); have n2_ := Aside0.mk ((by rw [hg]; exact (below_size (by repeat (first | (with_reducible first | exact HB.out | apply below_alloc | apply pw_below_drewN | apply below_drew1) | exact HB.out))) : w.heap.size ≤ gb121)); have n3_ := Aside0.mk ((by rw [hg]; exact (below_size (by repeat (first | (with_reducible first | exact HB.out | apply below_alloc | apply pw_below_drewN | apply below_drew1) | exact HB.out))) : w.heap.size ≤ gb121)); clear HB; have HB := n0_; have BK121 := n1_; have GW121 := n2_; have GE121 := n3_; clear n0_ n1_ n2_ n3_; clear hb hbox hg))
 (try simp only [Act.put, List.setIfInBounds_toArray, List.set_cons_zero, List.set_cons_succ])
 go_cut [8] (fun v8 wc => ∃ (kq : Nat) (x8_2 : Bool), v8 = .bool x8_2 ∧ Aside0 (step_Before.j0 kq l0 a1 x8_2 = some (r1, r2, r3, r4)) ∧ Aside0 (kq ≤ k) ∧ Aside0 (wc.heap[gb121]? = some (.cells #[.int .i32 0, .int .i64 0, .bool false] 23 (0, 0))) ∧ Aside0 (Below w.heap.size w wc))
 case first =>
  have H := HC3.out
  clear HC3
  by_cases c5 : a1 < 1
  ·rw [if_pos c5] at H
   have c5b0 : decide (a1 < 1) = true := decide_eq_true c5
   clear c5
   (first | rw [c5b0] | (simp only [i64_w, i32_w]; rw [c5b0]) | skip)
   have H' := Aside0.mk H
   clear H
   go_wp2
   go_meet
   case rel => exact ⟨_, (true), (by first | rfl | (simp; done) | (simp [*]; done)), H', ⟨by first | omega | exact Nat.le_refl _⟩, ⟨by (with_reducible repeat (first | refine blk_drewN ?_ _ | refine blk_drew ?_ | refine blk_alloc ?_ _)); exact BK121.out⟩, ⟨by repeat (first | (with_reducible first | exact HB.out | apply below_alloc | apply pw_below_drewN | apply below_drew1 | refine below_set ?_ GE121.out) | exact HB.out)⟩⟩
  ·rw [if_neg c5] at H
   have c5b0 : decide (a1 < 1) = false := decide_eq_false c5
   clear c5
   (first | rw [c5b0] | (simp only [i64_w, i32_w]; rw [c5b0]) | skip)
   have H' := Aside0.mk H
   clear H
   go_wp2
   go_meet
   case rel => exact ⟨_, (decide (a1 > (l0.length : Int))), (by first | rfl | (simp; done) | (simp [*]; done)), H', ⟨by first | omega | exact Nat.le_refl _⟩, ⟨by (with_reducible repeat (first | refine blk_drewN ?_ _ | refine blk_drew ?_ | refine blk_alloc ?_ _)); exact BK121.out⟩, ⟨by repeat (first | (with_reducible first | exact HB.out | apply below_alloc | apply pw_below_drewN | apply below_drew1 | refine below_set ?_ GE121.out) | exact HB.out)⟩⟩
 case rest =>
  clear HC3
  try clear p2
  try clear c5
  try clear c5b0
  obtain ⟨kq, x8_2, rfl, HA, HJ2, BK121, HB⟩ := hcut
  cases kq with
  | zero => exact absurd HA.out (by simp [step_Before.j0])
  | succ kj2 =>
   have H := HA.out
   clear HA
   simp only [step_Before.j0] at H
   by_cases c6 : x8_2 = true
   ·subst c6
    have H1 : (some (0, 0, false, 2)) = some (r1, r2, r3, r4) := by rw [if_pos rfl] at H; exact H
    clear H
    have H := H1
    clear H1
    simp only [Option.some.injEq, Prod.mk.injEq] at H
    obtain ⟨rfl, rfl, rfl, rfl⟩ := H
    have hcz7_0 : wc.cell? ⟨gb121, 0, none⟩ = some (.int .i32 0) := (blk_cell BK121.out 0).trans rfl
    have hcz7_1 : wc.cell? ⟨gb121, 1, none⟩ = some (.int .i64 0) := (blk_cell BK121.out 1).trans rfl
    have hcz7_2 : wc.cell? ⟨gb121, 2, none⟩ = some (.bool false) := (blk_cell BK121.out 2).trans rfl
    have hfz7_0 := blk_frozen BK121.out 0
    have hfz7_1 := blk_frozen BK121.out 1
    have hfz7_2 := blk_frozen BK121.out 2
    go_wp2
    refine bodyPost_ret (results_ct rfl _ _ gb121 23 #[.int .i32 0, .int .i64 0, .bool false] (0, 0) _ rfl (by (with_reducible repeat (first | refine blk_drewN ?_ _ | refine blk_drew ?_ | refine blk_alloc ?_ _)); refine blk_put (cs := #[.int .i32 0, .int .i64 0, .bool false]) ?_ 2 _ rfl; (with_reducible repeat (first | refine blk_drewN ?_ _ | refine blk_drew ?_ | refine blk_alloc ?_ _)); refine blk_put (cs := #[.int .i32 0, .int .i64 0, .bool false]) ?_ 1 _ rfl; (with_reducible repeat (first | refine blk_drewN ?_ _ | refine blk_drew ?_ | refine blk_alloc ?_ _)); refine blk_put (cs := #[.int .i32 0, .int .i64 0, .bool false]) ?_ 0 _ rfl; (with_reducible repeat (first | refine blk_drewN ?_ _ | refine blk_drew ?_ | refine blk_alloc ?_ _)); exact BK121.out) Tryd.underlying23 rfl (by kernel_rfl)) rfl ?_
    exact ⟨by first | rfl | (simp [errW_none, errW_some] <;> rfl) | (simp [*, errW_none, errW_some] <;> rfl), by repeat (first | (with_reducible first | exact HB.out | apply below_alloc | apply pw_below_drewN | apply below_drew1 | refine below_set ?_ GE121.out) | exact HB.out)⟩
   ·replace c6 := Bool.eq_false_iff.mpr c6
    subst c6
    have H1 : (if a1 < (l0.length : Int) then ((step_inside.f kj2 l0 a1).bind fun t122 => (step_Before.j1 kj2 l0 a1 (decide (t122 > 0)))) else (step_Before.j1 kj2 l0 a1 false)) = some (r1, r2, r3, r4) := by rw [if_neg (show ¬ (false = true) by decide)] at H; exact H
    clear H
    have H := H1
    clear H1
    have HC8 := Aside0.mk H
    clear H
    go_upto_region 3 with (fail)
    go_cut [18] (fun v18 wc => ∃ (kq : Nat) (x18_7 : Bool), v18 = .bool x18_7 ∧ Aside0 (step_Before.j1 kq l0 a1 x18_7 = some (r1, r2, r3, r4)) ∧ Aside0 (kq ≤ kj2) ∧ Aside0 (wc.heap[gb121]? = some (.cells #[.int .i32 0, .int .i64 0, .bool false] 23 (0, 0))) ∧ Aside0 (Below w.heap.size w wc))
    case first =>
     have H := HC8.out
     clear HC8
     by_cases c9 : a1 < (l0.length : Int)
     ·rw [if_pos c9] at H
      have c9b0 : decide (a1 < (l0.length : Int)) = true := decide_eq_true c9
      clear c9
      (first | rw [c9b0] | (simp only [i64_w, i32_w]; rw [c9b0]) | skip)
      replace H := Option.bind_eq_some_iff.mp H
      obtain ⟨t122, A100, H⟩ := H
      replace H : (step_Before.j1 kj2 l0 a1 (decide (t122 > 0))) = some (r1, r2, r3, r4) := H
      have A10 := Aside0.mk A100
      clear A100
      have H' := Aside0.mk H
      clear H
      go_wp2_with (first | (go_at_call 82; (with_reducible refine (step_inside.calls kj2 _ _ l0 a1 t122 _ ?side1 ?side2 ?side3 A10.out).mono ?_); (case side1 => repeat (first | exact (Kd.C_below HR0.out HB.out) | (with_reducible refine Kd.C_alloc ?_ _) | (with_reducible refine Kd.C_drewN ?_ _) | (with_reducible refine Kd.C_drew ?_))); (case side2 => exact HC0.out); (case side3 => exact laid_below HLB.out (by repeat (first | (with_reducible first | exact HB.out | apply below_alloc | apply pw_below_drewN | apply below_drew1 | refine below_set ?_ GE121.out) | exact HB.out))); rintro e w11 ⟨rfl, hb⟩; have n0_ := Aside0.mk (blk_below (g := gb121) (o := .cells #[.int .i32 0, .int .i64 0, .bool false] 23 (0, 0)) (by (with_reducible repeat (first | refine blk_drewN ?_ _ | refine blk_drew ?_ | refine blk_alloc ?_ _)); exact BK121.out) hb); have n1_ := Aside0.mk (below_step (by repeat (first | (with_reducible first | exact HB.out | apply below_alloc | apply pw_below_drewN | apply below_drew1 | refine below_set ?_ GE121.out) | exact HB.out)) hb); clear BK121; clear HB; have BK121 := n0_; have HB := n1_; clear n0_ n1_; (try clear hb); (try clear hb2); (try clear hk); (try clear hi)))
      go_meet
      case rel => exact ⟨_, (decide (t122 > 0)), (by first | rfl | (simp; done) | (simp [*]; done)), H', ⟨by have := HJ2.out; first | omega | exact Nat.le_refl _⟩, ⟨by (with_reducible repeat (first | refine blk_drewN ?_ _ | refine blk_drew ?_ | refine blk_alloc ?_ _)); exact BK121.out⟩, ⟨by repeat (first | (with_reducible first | exact HB.out | apply below_alloc | apply pw_below_drewN | apply below_drew1 | refine below_set ?_ GE121.out) | exact HB.out)⟩⟩
     ·rw [if_neg c9] at H
      have c9b0 : decide (a1 < (l0.length : Int)) = false := decide_eq_false c9
      clear c9
      (first | rw [c9b0] | (simp only [i64_w, i32_w]; rw [c9b0]) | skip)
      have H' := Aside0.mk H
      clear H
      go_wp2
      go_meet
      case rel => exact ⟨_, (false), (by first | rfl | (simp; done) | (simp [*]; done)), H', ⟨by have := HJ2.out; first | omega | exact Nat.le_refl _⟩, ⟨by (with_reducible repeat (first | refine blk_drewN ?_ _ | refine blk_drew ?_ | refine blk_alloc ?_ _)); exact BK121.out⟩, ⟨by repeat (first | (with_reducible first | exact HB.out | apply below_alloc | apply pw_below_drewN | apply below_drew1 | refine below_set ?_ GE121.out) | exact HB.out)⟩⟩
    case rest =>
     clear HC8
     try clear p2
     try clear c5
     try clear c5b0
     try clear c6
     try clear c9
     try clear c9b0
     try clear hcz7_0
     try clear hcz7_1
     try clear hcz7_2
     try clear hfz7_0
     try clear hfz7_1
     try clear hfz7_2
     try clear p2
     obtain ⟨kq, x18_7, rfl, HA, HJ7, BK121, HB⟩ := hcut
     cases kq with
     | zero => exact absurd HA.out (by simp [step_Before.j1])
     | succ kj7 =>
      have H := HA.out
      clear HA
      simp only [step_Before.j1] at H
      by_cases c12 : x18_7 = true
      ·subst c12
       have H1 : (some (0, 0, false, 4)) = some (r1, r2, r3, r4) := by rw [if_pos rfl] at H; exact H
       clear H
       have H := H1
       clear H1
       simp only [Option.some.injEq, Prod.mk.injEq] at H
       obtain ⟨rfl, rfl, rfl, rfl⟩ := H
       have hcz13_0 : wc.cell? ⟨gb121, 0, none⟩ = some (.int .i32 0) := (blk_cell BK121.out 0).trans rfl
       have hcz13_1 : wc.cell? ⟨gb121, 1, none⟩ = some (.int .i64 0) := (blk_cell BK121.out 1).trans rfl
       have hcz13_2 : wc.cell? ⟨gb121, 2, none⟩ = some (.bool false) := (blk_cell BK121.out 2).trans rfl
       have hfz13_0 := blk_frozen BK121.out 0
       have hfz13_1 := blk_frozen BK121.out 1
       have hfz13_2 := blk_frozen BK121.out 2
       go_wp2
       refine bodyPost_ret (results_ct rfl _ _ gb121 23 #[.int .i32 0, .int .i64 0, .bool false] (0, 0) _ rfl (by (with_reducible repeat (first | refine blk_drewN ?_ _ | refine blk_drew ?_ | refine blk_alloc ?_ _)); refine blk_put (cs := #[.int .i32 0, .int .i64 0, .bool false]) ?_ 2 _ rfl; (with_reducible repeat (first | refine blk_drewN ?_ _ | refine blk_drew ?_ | refine blk_alloc ?_ _)); refine blk_put (cs := #[.int .i32 0, .int .i64 0, .bool false]) ?_ 1 _ rfl; (with_reducible repeat (first | refine blk_drewN ?_ _ | refine blk_drew ?_ | refine blk_alloc ?_ _)); refine blk_put (cs := #[.int .i32 0, .int .i64 0, .bool false]) ?_ 0 _ rfl; (with_reducible repeat (first | refine blk_drewN ?_ _ | refine blk_drew ?_ | refine blk_alloc ?_ _)); exact BK121.out) Tryd.underlying23 rfl (by kernel_rfl)) rfl ?_
       exact ⟨by first | rfl | (simp [errW_none, errW_some] <;> rfl) | (simp [*, errW_none, errW_some] <;> rfl), by repeat (first | (with_reducible first | exact HB.out | apply below_alloc | apply pw_below_drewN | apply below_drew1 | refine below_set ?_ GE121.out) | exact HB.out)⟩
      ·replace c12 := Bool.eq_false_iff.mpr c12
       subst c12
       have H1 : ((step_Floor.f kj7 l0 (wrap64 (a1 - 1))).bind fun bt123 => ((step_at.f l0 bt123.1).bind fun bt125 => (some (bt125.1, bt125.2.1, bt125.2.2, 0)))) = some (r1, r2, r3, r4) := by rw [if_neg (show ¬ (false = true) by decide)] at H; exact H
       clear H
       have H := H1
       clear H1
       replace H := Option.bind_eq_some_iff.mp H
       obtain ⟨⟨t123, t124⟩, A140, H⟩ := H
       replace H : ((step_at.f l0 t123).bind fun bt125 => (some (bt125.1, bt125.2.1, bt125.2.2, 0))) = some (r1, r2, r3, r4) := H
       have A14 := Aside0.mk A140
       clear A140
       replace H := Option.bind_eq_some_iff.mp H
       obtain ⟨⟨t125, t126, t127⟩, A150, H⟩ := H
       replace H : (some (t125, t126, t127, 0)) = some (r1, r2, r3, r4) := H
       have A15 := Aside0.mk A150
       clear A150
       simp only [Option.some.injEq, Prod.mk.injEq] at H
       obtain ⟨rfl, rfl, rfl, rfl⟩ := H
       go_wp2_with (first | ((with_reducible refine gate_callee (f := 67) rfl ?_); refine goesL_ (some 34) rfl rfl Tryd.func67 (by kernel_rfl) rfl #[.slice A0 l0.length c0, .int .i64 (wrap64 (a1 - 1))] rfl (by (try simp only [List.map_toArray, List.map_cons, List.map_nil]); first | done | rfl | (simp only [List.length_drop, List.length_take]; rfl)) ?_; (with_reducible refine (step_Floor.calls kj7 _ _ l0 (wrap64 (a1 - 1)) t123 t124 _ ?side1 ?side2 ?side3 A14.out).mono ?_); (case side1 => repeat (first | exact (Kd.C_below HR0.out HB.out) | (with_reducible refine Kd.C_alloc ?_ _) | (with_reducible refine Kd.C_drewN ?_ _) | (with_reducible refine Kd.C_drew ?_))); (case side2 => exact HC0.out); (case side3 => exact laid_below HLB.out (by repeat (first | (with_reducible first | exact HB.out | apply below_alloc | apply pw_below_drewN | apply below_drew1 | refine below_set ?_ GE121.out) | exact HB.out))); rintro e w16 ⟨rfl, hb⟩; refine ⟨_, rfl, ?_⟩; have n0_ := Aside0.mk (blk_below (g := gb121) (o := .cells #[.int .i32 0, .int .i64 0, .bool false] 23 (0, 0)) (by (with_reducible repeat (first | refine blk_drewN ?_ _ | refine blk_drew ?_ | refine blk_alloc ?_ _)); exact BK121.out) hb); have n1_ := Aside0.mk (below_step (by repeat (first | (with_reducible first | exact HB.out | apply below_alloc | apply pw_below_drewN | apply below_drew1 | refine below_set ?_ GE121.out) | exact HB.out)) hb); clear BK121; clear HB; have BK121 := n0_; have HB := n1_; clear n0_ n1_; (try clear hb); (try clear hb2); (try clear hk); (try clear hi)) | ((with_reducible refine gate_callee (f := 83) rfl ?_); refine goesL_ (some 39) rfl rfl Tryd.func83 (by kernel_rfl) rfl #[.slice A0 l0.length c0, .int .i64 t123] rfl (by (try simp only [List.map_toArray, List.map_cons, List.map_nil]); first | done | rfl | (simp only [List.length_drop, List.length_take]; rfl)) ?_; (with_reducible refine (step_at.calls _ _ l0 t123 t125 t126 t127 _ ?side1 ?side2 ?side3 A15.out).mono ?_); (case side1 => repeat (first | exact (Kd.C_below HR0.out HB.out) | (with_reducible refine Kd.C_alloc ?_ _) | (with_reducible refine Kd.C_drewN ?_ _) | (with_reducible refine Kd.C_drew ?_))); (case side2 => exact HC0.out); (case side3 => exact laid_below HLB.out (by repeat (first | (with_reducible first | exact HB.out | apply below_alloc | apply pw_below_drewN | apply below_drew1 | refine below_set ?_ GE121.out) | exact HB.out))); rintro e w17 ⟨rfl, hb⟩; refine ⟨_, rfl, ?_⟩; have n0_ := Aside0.mk (blk_below (g := gb121) (o := .cells #[.int .i32 0, .int .i64 0, .bool false] 23 (0, 0)) (by (with_reducible repeat (first | refine blk_drewN ?_ _ | refine blk_drew ?_ | refine blk_alloc ?_ _)); exact BK121.out) hb); have n1_ := Aside0.mk (below_step (by repeat (first | (with_reducible first | exact HB.out | apply below_alloc | apply pw_below_drewN | apply below_drew1 | refine below_set ?_ GE121.out) | exact HB.out)) hb); clear BK121; clear HB; have BK121 := n0_; have HB := n1_; clear n0_ n1_; (try clear hb); (try clear hb2); (try clear hk); (try clear hi); have hcz18_0 : w17.cell? ⟨gb121, 0, none⟩ = some (.int .i32 0) := (blk_cell BK121.out 0).trans rfl; have hcz18_1 : w17.cell? ⟨gb121, 1, none⟩ = some (.int .i64 0) := (blk_cell BK121.out 1).trans rfl; have hcz18_2 : w17.cell? ⟨gb121, 2, none⟩ = some (.bool false) := (blk_cell BK121.out 2).trans rfl; have hfz18_0 := blk_frozen BK121.out 0; have hfz18_1 := blk_frozen BK121.out 1; have hfz18_2 := blk_frozen BK121.out 2))
       refine bodyPost_ret (results_ct rfl _ _ gb121 23 #[.int .i32 t125, .int .i64 t126, .bool t127] (0, 0) _ rfl (by (with_reducible repeat (first | refine blk_drewN ?_ _ | refine blk_drew ?_ | refine blk_alloc ?_ _)); refine blk_put (cs := #[.int .i32 t125, .int .i64 t126, .bool false]) ?_ 2 _ rfl; (with_reducible repeat (first | refine blk_drewN ?_ _ | refine blk_drew ?_ | refine blk_alloc ?_ _)); refine blk_put (cs := #[.int .i32 t125, .int .i64 0, .bool false]) ?_ 1 _ rfl; (with_reducible repeat (first | refine blk_drewN ?_ _ | refine blk_drew ?_ | refine blk_alloc ?_ _)); refine blk_put (cs := #[.int .i32 0, .int .i64 0, .bool false]) ?_ 0 _ rfl; (with_reducible repeat (first | refine blk_drewN ?_ _ | refine blk_drew ?_ | refine blk_alloc ?_ _)); exact BK121.out) Tryd.underlying23 rfl (by kernel_rfl)) rfl ?_
       exact ⟨by first | rfl | (simp [errW_none, errW_some] <;> rfl) | (simp [*, errW_none, errW_some] <;> rfl), by repeat (first | (with_reducible first | exact HB.out | apply below_alloc | apply pw_below_drewN | apply below_drew1 | refine below_set ?_ GE121.out) | exact HB.out)⟩

end Go.Proofs.YtijbkiajhicooaaDoor.PW

namespace Go.Proofs.YtijbkiajhicooaaDoor.PW
open Go.RowKit Go.Proofs.YtijbkiajhicooaaDoorW.PrintWords Go.Proofs.YtijbkiajhicooaaDoorW.PrintLast Go.Proofs.YtijbkiajhicooaaDoorW.PrintMore
attribute [local go_sem] max2_int min2_int max_two min_two max_three min_three max_four min_four   -- for this text's walks alone
set_option linter.unusedVariables false
set_option linter.unusedSimpArgs false

def step_At.j0 : Nat → List Int → Int → Bool → Option (Int × Int × Bool × Int)
 | 0, _, _, _ => none
 | k + 1, x0, x1, x6 => if x6 = true then (some (0, 0, false, 2)) else ((step_inside.f k x0 x1).bind fun t129 => (if t129 > 0 then (some (0, 0, false, 4)) else ((step_at.f x0 x1).bind fun bt130 => (some (bt130.1, bt130.2.1, bt130.2.2, 0)))))
def step_At.f (k : Nat) (l0 : List Int) (a1 : Int) : Option (Int × Int × Bool × Int) := if a1 < 0 then (step_At.j0 k l0 a1 true) else (step_At.j0 k l0 a1 (decide (a1 ≥ (l0.length : Int))))
set_option maxHeartbeats 8000000 in
set_option maxRecDepth 100000 in
theorem step_At.calls (k : Nat) (A0 : Option Addr) (c0 : Nat) (l0 : List Int) (a1 : Int) (r1 : Int) (r2 : Int) (r3 : Bool) (r4 : Int) (w : World) (hr0 : Kd.C (Kd.int .u8) w A0 l0.length l0) (hc0 : l0.length ≤ c0) (hL : LaidBad w) (h : step_At.f k l0 a1 = some (r1, r2, r3, r4)) :
  Calls Tryd.prog 61 #[.slice A0 l0.length c0, .int .i64 a1] w fun e w' => e = .returned (.tuple #[.agg #[.int .i32 r1, .int .i64 r2, .bool r3], .int .i64 r4]) ∧ Below w.heap.size w w' := by
 have hu23 := Tryd.underlying23
 have HR0 := Aside0.mk hr0
 have HC0 := Aside0.mk hc0
 clear hr0 hc0
 have HB := Aside0.mk (Below.refl w.heap.size w)
 have HLB := Aside0.mk hL
 clear hL
 have H : (if a1 < 0 then (step_At.j0 k l0 a1 true) else (step_At.j0 k l0 a1 (decide (a1 ≥ (l0.length : Int))))) = some (r1, r2, r3, r4) := h
 clear h
 have HC3 := Aside0.mk H
 clear H
 go_enter Tryd.func61, Tryd.ntmps61
 go_upto_region 1 with (first | ((with_reducible refine gate_dst (N := 4) rfl ?_); (try (refine gate_guard (by rfl) ?_; dsimp only)); refine box_event ?hg (N := 4) ?hd (cs := #[.int .i32 0, .int .i64 0, .bool false]) (t := 23) ?hr ?_; (case hd => rfl); (case hg => rfl); (case hr => first | (go_simp; done) | (go_simp; rfl)); intro gb128 hg w4 hbox hb; have n0_ := Aside0.mk (below_step (by repeat (first | (with_reducible first | exact HB.out | apply below_alloc | apply pw_below_drewN | apply below_drew1) | exact HB.out)) hb); have n1_ := Aside0.mk (hbox); have n2_ := Aside0.mk ((by rw [hg]; exact (below_size (by repeat (first | (with_reducible first | exact HB.out | apply below_alloc | apply pw_below_drewN | apply below_drew1) | exact HB.out))) : w.heap.size ≤ gb128)); have n3_ := Aside0.mk ((by rw [hg]; exact (below_size (by repeat (first | (with_reducible first | exact HB.out | apply below_alloc | apply pw_below_drewN | apply below_drew1) | exact HB.out))) : w.heap.size ≤ gb128)); clear HB; have HB := n0_; have BK128 := n1_; have GW128 := n2_; have GE128 := n3_; clear n0_ n1_ n2_ n3_; clear hb hbox hg))
 (try simp only [Act.put, List.setIfInBounds_toArray, List.set_cons_zero, List.set_cons_succ])
 go_cut [6] (fun v6 wc => ∃ (kq : Nat) (x6_2 : Bool), v6 = .bool x6_2 ∧ Aside0 (step_At.j0 kq l0 a1 x6_2 = some (r1, r2, r3, r4)) ∧ Aside0 (kq ≤ k) ∧ Aside0 (wc.heap[gb128]? = some (.cells #[.int .i32 0, .int .i64 0, .bool false] 23 (0, 0))) ∧ Aside0 (Below w.heap.size w wc))
 case first =>
  have H := HC3.out
  clear HC3
  by_cases c5 : a1 < 0
  ·rw [if_pos c5] at H
   have c5b0 : decide (a1 < 0) = true := decide_eq_true c5
   clear c5
   (first | rw [c5b0] | (simp only [i64_w, i32_w]; rw [c5b0]) | skip)
   have H' := Aside0.mk H
   clear H
   go_wp2
   go_meet
   case rel => exact ⟨_, (true), (by first | rfl | (simp; done) | (simp [*]; done)), H', ⟨by first | omega | exact Nat.le_refl _⟩, ⟨by (with_reducible repeat (first | refine blk_drewN ?_ _ | refine blk_drew ?_ | refine blk_alloc ?_ _)); exact BK128.out⟩, ⟨by repeat (first | (with_reducible first | exact HB.out | apply below_alloc | apply pw_below_drewN | apply below_drew1 | refine below_set ?_ GE128.out) | exact HB.out)⟩⟩
  ·rw [if_neg c5] at H
   have c5b0 : decide (a1 < 0) = false := decide_eq_false c5
   clear c5
   (first | rw [c5b0] | (simp only [i64_w, i32_w]; rw [c5b0]) | skip)
   have H' := Aside0.mk H
   clear H
   go_wp2
   go_meet
   case rel => exact ⟨_, (decide (a1 ≥ (l0.length : Int))), (by first | rfl | (simp; done) | (simp [*]; done)), H', ⟨by first | omega | exact Nat.le_refl _⟩, ⟨by (with_reducible repeat (first | refine blk_drewN ?_ _ | refine blk_drew ?_ | refine blk_alloc ?_ _)); exact BK128.out⟩, ⟨by repeat (first | (with_reducible first | exact HB.out | apply below_alloc | apply pw_below_drewN | apply below_drew1 | refine below_set ?_ GE128.out) | exact HB.out)⟩⟩
 case rest =>
  clear HC3
  try clear p2
  try clear c5
  try clear c5b0
  obtain ⟨kq, x6_2, rfl, HA, HJ2, BK128, HB⟩ := hcut
  cases kq with
  | zero => exact absurd HA.out (by simp [step_At.j0])
  | succ kj2 =>
   have H := HA.out
   clear HA
   simp only [step_At.j0] at H
   by_cases c6 : x6_2 = true
   ·subst c6
    have H1 : (some (0, 0, false, 2)) = some (r1, r2, r3, r4) := by rw [if_pos rfl] at H; exact H
    clear H
    have H := H1
    clear H1
    simp only [Option.some.injEq, Prod.mk.injEq] at H
    obtain ⟨rfl, rfl, rfl, rfl⟩ := H
    have hcz7_0 : wc.cell? ⟨gb128, 0, none⟩ = some (.int .i32 0) := (blk_cell BK128.out 0).trans rfl
    have hcz7_1 : wc.cell? ⟨gb128, 1, none⟩ = some (.int .i64 0) := (blk_cell BK128.out 1).trans rfl
    have hcz7_2 : wc.cell? ⟨gb128, 2, none⟩ = some (.bool false) := (blk_cell BK128.out 2).trans rfl
    have hfz7_0 := blk_frozen BK128.out 0
    have hfz7_1 := blk_frozen BK128.out 1
    have hfz7_2 := blk_frozen BK128.out 2
    go_wp2
    refine bodyPost_ret (results_ct rfl _ _ gb128 23 #[.int .i32 0, .int .i64 0, .bool false] (0, 0) _ rfl (by (with_reducible repeat (first | refine blk_drewN ?_ _ | refine blk_drew ?_ | refine blk_alloc ?_ _)); refine blk_put (cs := #[.int .i32 0, .int .i64 0, .bool false]) ?_ 2 _ rfl; (with_reducible repeat (first | refine blk_drewN ?_ _ | refine blk_drew ?_ | refine blk_alloc ?_ _)); refine blk_put (cs := #[.int .i32 0, .int .i64 0, .bool false]) ?_ 1 _ rfl; (with_reducible repeat (first | refine blk_drewN ?_ _ | refine blk_drew ?_ | refine blk_alloc ?_ _)); refine blk_put (cs := #[.int .i32 0, .int .i64 0, .bool false]) ?_ 0 _ rfl; (with_reducible repeat (first | refine blk_drewN ?_ _ | refine blk_drew ?_ | refine blk_alloc ?_ _)); exact BK128.out) Tryd.underlying23 rfl (by kernel_rfl)) rfl ?_
    exact ⟨by first | rfl | (simp [errW_none, errW_some] <;> rfl) | (simp [*, errW_none, errW_some] <;> rfl), by repeat (first | (with_reducible first | exact HB.out | apply below_alloc | apply pw_below_drewN | apply below_drew1 | refine below_set ?_ GE128.out) | exact HB.out)⟩
   ·replace c6 := Bool.eq_false_iff.mpr c6
    subst c6
    have H1 : ((step_inside.f kj2 l0 a1).bind fun t129 => (if t129 > 0 then (some (0, 0, false, 4)) else ((step_at.f l0 a1).bind fun bt130 => (some (bt130.1, bt130.2.1, bt130.2.2, 0))))) = some (r1, r2, r3, r4) := by rw [if_neg (show ¬ (false = true) by decide)] at H; exact H
    clear H
    have H := H1
    clear H1
    replace H := Option.bind_eq_some_iff.mp H
    obtain ⟨t129, A80, H⟩ := H
    replace H : (if t129 > 0 then (some (0, 0, false, 4)) else ((step_at.f l0 a1).bind fun bt130 => (some (bt130.1, bt130.2.1, bt130.2.2, 0)))) = some (r1, r2, r3, r4) := H
    have A8 := Aside0.mk A80
    clear A80
    by_cases c9 : t129 > 0
    ·rw [if_pos c9] at H
     have c9b0 : decide (0 < t129) = true := decide_eq_true c9
     clear c9
     simp only [Option.some.injEq, Prod.mk.injEq] at H
     obtain ⟨rfl, rfl, rfl, rfl⟩ := H
     go_wp2_with (first | ((with_reducible refine gate_callee (f := 82) rfl ?_); refine goesL_ (some 19) rfl rfl Tryd.func82 (by kernel_rfl) rfl #[.slice A0 l0.length c0, .int .i64 a1] rfl (by (try simp only [List.map_toArray, List.map_cons, List.map_nil]); first | done | rfl | (simp only [List.length_drop, List.length_take]; rfl)) ?_; (with_reducible refine (step_inside.calls kj2 _ _ l0 a1 t129 _ ?side1 ?side2 ?side3 A8.out).mono ?_); (case side1 => repeat (first | exact (Kd.C_below HR0.out HB.out) | (with_reducible refine Kd.C_alloc ?_ _) | (with_reducible refine Kd.C_drewN ?_ _) | (with_reducible refine Kd.C_drew ?_))); (case side2 => exact HC0.out); (case side3 => exact laid_below HLB.out (by repeat (first | (with_reducible first | exact HB.out | apply below_alloc | apply pw_below_drewN | apply below_drew1 | refine below_set ?_ GE128.out) | exact HB.out))); rintro e w10 ⟨rfl, hb⟩; refine ⟨_, rfl, ?_⟩; have n0_ := Aside0.mk (blk_below (g := gb128) (o := .cells #[.int .i32 0, .int .i64 0, .bool false] 23 (0, 0)) (by (with_reducible repeat (first | refine blk_drewN ?_ _ | refine blk_drew ?_ | refine blk_alloc ?_ _)); exact BK128.out) hb); have n1_ := Aside0.mk (below_step (by repeat (first | (with_reducible first | exact HB.out | apply below_alloc | apply pw_below_drewN | apply below_drew1 | refine below_set ?_ GE128.out) | exact HB.out)) hb); clear BK128; clear HB; have BK128 := n0_; have HB := n1_; clear n0_ n1_; (try clear hb); (try clear hb2); (try clear hk); (try clear hi); have hcz11_0 : w10.cell? ⟨gb128, 0, none⟩ = some (.int .i32 0) := (blk_cell BK128.out 0).trans rfl; have hcz11_1 : w10.cell? ⟨gb128, 1, none⟩ = some (.int .i64 0) := (blk_cell BK128.out 1).trans rfl; have hcz11_2 : w10.cell? ⟨gb128, 2, none⟩ = some (.bool false) := (blk_cell BK128.out 2).trans rfl; have hfz11_0 := blk_frozen BK128.out 0; have hfz11_1 := blk_frozen BK128.out 1; have hfz11_2 := blk_frozen BK128.out 2))
     refine bodyPost_ret (results_ct rfl _ _ gb128 23 #[.int .i32 0, .int .i64 0, .bool false] (0, 0) _ rfl (by (with_reducible repeat (first | refine blk_drewN ?_ _ | refine blk_drew ?_ | refine blk_alloc ?_ _)); refine blk_put (cs := #[.int .i32 0, .int .i64 0, .bool false]) ?_ 2 _ rfl; (with_reducible repeat (first | refine blk_drewN ?_ _ | refine blk_drew ?_ | refine blk_alloc ?_ _)); refine blk_put (cs := #[.int .i32 0, .int .i64 0, .bool false]) ?_ 1 _ rfl; (with_reducible repeat (first | refine blk_drewN ?_ _ | refine blk_drew ?_ | refine blk_alloc ?_ _)); refine blk_put (cs := #[.int .i32 0, .int .i64 0, .bool false]) ?_ 0 _ rfl; (with_reducible repeat (first | refine blk_drewN ?_ _ | refine blk_drew ?_ | refine blk_alloc ?_ _)); exact BK128.out) Tryd.underlying23 rfl (by kernel_rfl)) rfl ?_
     exact ⟨by first | rfl | (simp [errW_none, errW_some] <;> rfl) | (simp [*, errW_none, errW_some] <;> rfl), by repeat (first | (with_reducible first | exact HB.out | apply below_alloc | apply pw_below_drewN | apply below_drew1 | refine below_set ?_ GE128.out) | exact HB.out)⟩
    ·rw [if_neg c9] at H
     have c9b0 : decide (0 < t129) = false := decide_eq_false c9
     clear c9
     replace H := Option.bind_eq_some_iff.mp H
     obtain ⟨⟨t130, t131, t132⟩, A120, H⟩ := H
     replace H : (some (t130, t131, t132, 0)) = some (r1, r2, r3, r4) := H
     have A12 := Aside0.mk A120
     clear A120
     simp only [Option.some.injEq, Prod.mk.injEq] at H
     obtain ⟨rfl, rfl, rfl, rfl⟩ := H
     go_wp2_with (first | ((with_reducible refine gate_callee (f := 82) rfl ?_); refine goesL_ (some 19) rfl rfl Tryd.func82 (by kernel_rfl) rfl #[.slice A0 l0.length c0, .int .i64 a1] rfl (by (try simp only [List.map_toArray, List.map_cons, List.map_nil]); first | done | rfl | (simp only [List.length_drop, List.length_take]; rfl)) ?_; (with_reducible refine (step_inside.calls kj2 _ _ l0 a1 t129 _ ?side1 ?side2 ?side3 A8.out).mono ?_); (case side1 => repeat (first | exact (Kd.C_below HR0.out HB.out) | (with_reducible refine Kd.C_alloc ?_ _) | (with_reducible refine Kd.C_drewN ?_ _) | (with_reducible refine Kd.C_drew ?_))); (case side2 => exact HC0.out); (case side3 => exact laid_below HLB.out (by repeat (first | (with_reducible first | exact HB.out | apply below_alloc | apply pw_below_drewN | apply below_drew1 | refine below_set ?_ GE128.out) | exact HB.out))); rintro e w13 ⟨rfl, hb⟩; refine ⟨_, rfl, ?_⟩; have n0_ := Aside0.mk (blk_below (g := gb128) (o := .cells #[.int .i32 0, .int .i64 0, .bool false] 23 (0, 0)) (by (with_reducible repeat (first | refine blk_drewN ?_ _ | refine blk_drew ?_ | refine blk_alloc ?_ _)); exact BK128.out) hb); have n1_ := Aside0.mk (below_step (by repeat (first | (with_reducible first | exact HB.out | apply below_alloc | apply pw_below_drewN | apply below_drew1 | refine below_set ?_ GE128.out) | exact HB.out)) hb); clear BK128; clear HB; have BK128 := n0_; have HB := n1_; clear n0_ n1_; (try clear hb); (try clear hb2); (try clear hk); (try clear hi)) | ((with_reducible refine gate_callee (f := 83) rfl ?_); refine goesL_ (some 24) rfl rfl Tryd.func83 (by kernel_rfl) rfl #[.slice A0 l0.length c0, .int .i64 a1] rfl (by (try simp only [List.map_toArray, List.map_cons, List.map_nil]); first | done | rfl | (simp only [List.length_drop, List.length_take]; rfl)) ?_; (with_reducible refine (step_at.calls _ _ l0 a1 t130 t131 t132 _ ?side1 ?side2 ?side3 A12.out).mono ?_); (case side1 => repeat (first | exact (Kd.C_below HR0.out HB.out) | (with_reducible refine Kd.C_alloc ?_ _) | (with_reducible refine Kd.C_drewN ?_ _) | (with_reducible refine Kd.C_drew ?_))); (case side2 => exact HC0.out); (case side3 => exact laid_below HLB.out (by repeat (first | (with_reducible first | exact HB.out | apply below_alloc | apply pw_below_drewN | apply below_drew1 | refine below_set ?_ GE128.out) | exact HB.out))); rintro e w14 ⟨rfl, hb⟩; refine ⟨_, rfl, ?_⟩; have n0_ := Aside0.mk (blk_below (g := gb128) (o := .cells #[.int .i32 0, .int .i64 0, .bool false] 23 (0, 0)) (by (with_reducible repeat (first | refine blk_drewN ?_ _ | refine blk_drew ?_ | refine blk_alloc ?_ _)); exact BK128.out) hb); have n1_ := Aside0.mk (below_step (by repeat (first | (with_reducible first | exact HB.out | apply below_alloc | apply pw_below_drewN | apply below_drew1 | refine below_set ?_ GE128.out) | exact HB.out)) hb); clear BK128; clear HB; have BK128 := n0_; have HB := n1_; clear n0_ n1_; (try clear hb); (try clear hb2); (try clear hk); (try clear hi); have hcz15_0 : w14.cell? ⟨gb128, 0, none⟩ = some (.int .i32 0) := (blk_cell BK128.out 0).trans rfl; have hcz15_1 : w14.cell? ⟨gb128, 1, none⟩ = some (.int .i64 0) := (blk_cell BK128.out 1).trans rfl; have hcz15_2 : w14.cell? ⟨gb128, 2, none⟩ = some (.bool false) := (blk_cell BK128.out 2).trans rfl; have hfz15_0 := blk_frozen BK128.out 0; have hfz15_1 := blk_frozen BK128.out 1; have hfz15_2 := blk_frozen BK128.out 2))
     refine bodyPost_ret (results_ct rfl _ _ gb128 23 #[.int .i32 t130, .int .i64 t131, .bool t132] (0, 0) _ rfl (by (with_reducible repeat (first | refine blk_drewN ?_ _ | refine blk_drew ?_ | refine blk_alloc ?_ _)); refine blk_put (cs := #[.int .i32 t130, .int .i64 t131, .bool false]) ?_ 2 _ rfl; (with_reducible repeat (first | refine blk_drewN ?_ _ | refine blk_drew ?_ | refine blk_alloc ?_ _)); refine blk_put (cs := #[.int .i32 t130, .int .i64 0, .bool false]) ?_ 1 _ rfl; (with_reducible repeat (first | refine blk_drewN ?_ _ | refine blk_drew ?_ | refine blk_alloc ?_ _)); refine blk_put (cs := #[.int .i32 0, .int .i64 0, .bool false]) ?_ 0 _ rfl; (with_reducible repeat (first | refine blk_drewN ?_ _ | refine blk_drew ?_ | refine blk_alloc ?_ _)); exact BK128.out) Tryd.underlying23 rfl (by kernel_rfl)) rfl ?_
     exact ⟨by first | rfl | (simp [errW_none, errW_some] <;> rfl) | (simp [*, errW_none, errW_some] <;> rfl), by repeat (first | (with_reducible first | exact HB.out | apply below_alloc | apply pw_below_drewN | apply below_drew1 | refine below_set ?_ GE128.out) | exact HB.out)⟩

end Go.Proofs.YtijbkiajhicooaaDoor.PW

namespace Go.Proofs.YtijbkiajhicooaaDoor.PW
open Go.RowKit Go.Proofs.YtijbkiajhicooaaDoorW.PrintWords Go.Proofs.YtijbkiajhicooaaDoorW.PrintLast Go.Proofs.YtijbkiajhicooaaDoorW.PrintMore
attribute [local go_sem] max2_int min2_int max_two min_two max_three min_three max_four min_four   -- for this text's walks alone
set_option linter.unusedVariables false
set_option linter.unusedSimpArgs false

/-- A head, so many steps on; so many back. -/
def fwdK (k : Nat) (b : List Int) : Nat → Int → Option Int
 | 0, h => some h
 | n + 1, h => (step_At.f k b h).bind fun x => if x.2.2.2 = 0 then fwdK k b n (wrap64 (h + x.2.1)) else some h
def bwdK (k : Nat) (b : List Int) : Nat → Int → Option Int
 | 0, h => some h
 | n + 1, h => (step_Before.f k b h).bind fun x => if x.2.2.2 = 0 then bwdK k b n (wrap64 (h - x.2.1)) else some h
def moveK (k : Nat) (b : List Int) (n h : Int) : Option Int := (fwdK k b n.toNat h).bind fun h1 => bwdK k b (-n).toNat h1
theorem wrap64_of {n : Int} (h0 : -9223372036854775808 ≤ n) (h1 : n ≤ 9223372036854775807) : wrap64 n = n := by unfold wrap64; omega
set_option maxRecDepth 100000 in
set_option maxHeartbeats 4000000 in
theorem move1_calls (k : Nat) (n head : Int) (Bn Bb : Nat) (A0 : Option Addr) (c0 : Nat) (b : List Int) (r : Int) (w : World) (hn0 : -9223372036854775808 ≤ n) (hn1 : n ≤ 9223372036854775807) (hbn : w.heap[Bn]? = some (.cells #[.int .i64 n] 3 (0, 0))) (hbb : w.heap[Bb]? = some (.cells #[.slice A0 b.length c0] 29 (0, 0)))
  (hr0 : Kd.C (Kd.int .u8) w A0 b.length b) (hc0 : b.length ≤ c0) (hL : LaidBad w) (h : moveK k b n head = some r) :
  Calls Tryd.prog 64 #[.int .i64 head, .pointer (some ⟨Bn, 0, none⟩), .pointer (some ⟨Bb, 0, none⟩)] w fun e w' => e = .returned (.int .i64 r) ∧ Below w.heap.size w w' := by
 have HBN := Aside0.mk hbn
 have HBB := Aside0.mk hbb
 have HR0 := Aside0.mk hr0
 have HC0 := Aside0.mk hc0
 have HLB := Aside0.mk hL
 have hu50 := Tryd.underlying23
 have cn := blk_cell hbn 0
 have cb := blk_cell hbb 0
 obtain ⟨h1, hm1, hm2⟩ := Option.bind_eq_some_iff.mp h
 have HM1 := Aside0.mk hm1
 have HM20 := Aside0.mk hm2
 clear hbn hbb hr0 hc0 hL h hm1 hm2
 go_enter Tryd.func64, Tryd.ntmps64
 go_wp2
 go_loopg [0, 5] (n.toNat + 1) (fun kq v0 v5 W => ∃ (h k5 : Int), v0 = .int .i64 h ∧ v5 = .int .i64 k5 ∧ Aside0 (fwdK k b k5.toNat h = some h1) ∧ Aside0 (k5.toNat < kq) ∧ Aside0 (k5 ≤ 9223372036854775807) ∧ Aside0 (Below w.heap.size w W))
 case atStart => exact ⟨head, n, rfl, rfl, HM1, ⟨Nat.lt_succ_self _⟩, ⟨hn1⟩, ⟨Below.refl _ w⟩⟩
 case round =>
  obtain ⟨h, k5, rfl, rfl, HF, HK, HN, HB⟩ := hrel
  have cn := blk_cell (blk_below HBN.out HB.out) 0
  have cb := blk_cell (blk_below HBB.out HB.out) 0
  by_cases hlt : 0 < k5
  ·have d1 : decide (0 < k5) = true := decide_eq_true hlt
   obtain ⟨q, hq⟩ : ∃ q, k5.toNat = q + 1 := ⟨k5.toNat - 1, by omega⟩
   have hf := HF.out
   rw [hq] at hf
   simp only [fwdK] at hf
   obtain ⟨⟨x1, x2, x3, x4⟩, hx, hf⟩ := Option.bind_eq_some_iff.mp hf
   dsimp only at hf
   have HX := Aside0.mk hx
   cases gk with
   | zero => exact absurd HK.out (Nat.not_lt_zero _)
   | succ kk =>
    by_cases h4 : x4 = 0
    ·rw [if_pos h4] at hf
     have HF2 := Aside0.mk hf
     have b4 : (x4 != 0) = false := by simpa using h4
     have hq2 : (k5 - 1).toNat = q := by omega
     have hkk : q < kk := by have := HK.out; omega
     have w1 : wrap64 (k5 - 1) = k5 - 1 := wrap64_of (by omega) (by have := HN.out; omega)
     have HQ2 := Aside0.mk hq2
     have HKK := Aside0.mk hkk
     have HN2 := Aside0.mk (show k5 - 1 ≤ 9223372036854775807 by have := HN.out; omega)
     clear hx hf hq hq2 hkk
     go_wp2_with fail
     refine (step_At.calls k A0 c0 b h x1 x2 x3 x4 _ (Kd.C_below HR0.out HB.out) HC0.out (laid_below HLB.out HB.out) HX.out).mono ?_
     rintro e W3 ⟨rfl, hb3⟩
     have HB3 := Aside0.mk (below_step HB.out hb3)
     clear hb3
     go_wp2
     go_roundg kk
     case measure => omega
     case rel => exact ⟨_, k5 - 1, rfl, by first | rfl | (simp [w1]; done), ⟨by rw [HQ2.out]; exact HF2.out⟩, ⟨by rw [HQ2.out]; exact HKK.out⟩, HN2, ⟨below_alloc HB3.out _⟩⟩
    ·rw [if_neg h4] at hf
     have hf := Option.some.inj hf
     subst hf
     have b4 : (x4 != 0) = true := by simpa using h4
     clear hx hq
     go_wp2_with fail
     refine (step_At.calls k A0 c0 b h x1 x2 x3 x4 _ (Kd.C_below HR0.out HB.out) HC0.out (laid_below HLB.out HB.out) HX.out).mono ?_
     rintro e W3 ⟨rfl, hb3⟩
     have HB1 := Aside0.mk (below_alloc (below_step HB.out hb3) (.cells #[.int .i32 x1, .int .i64 x2, .bool x3] 23))
     have hm2 := HM20
     have cn := blk_cell (blk_below HBN.out HB1.out) 0
     clear hb3
     have HM2 := Aside0.mk hm2
     clear hm2 HF HK HN HB
     go_wp2
     go_loopg [0, 8] ((-n).toNat + 1) (fun kq v0 v8 W => ∃ (h k8 : Int), v0 = .int .i64 h ∧ v8 = .int .i64 k8 ∧ Aside0 (bwdK k b (-k8).toNat h = some r) ∧ Aside0 ((-k8).toNat < kq) ∧ Aside0 (-9223372036854775808 ≤ k8) ∧ Aside0 (Below w.heap.size w W))
     case atStart => exact ⟨_, n, rfl, rfl, HM2.out, ⟨Nat.lt_succ_self _⟩, ⟨hn0⟩, ⟨HB1.out⟩⟩
     case round =>
      obtain ⟨h, k8, rfl, rfl, HF, HK, HN, HB⟩ := hrel
      by_cases hlt : k8 < 0
      ·have d1 : decide (k8 < 0) = true := decide_eq_true hlt
       obtain ⟨q, hq⟩ : ∃ q, (-k8).toNat = q + 1 := ⟨(-k8).toNat - 1, by omega⟩
       have hf := HF.out
       rw [hq] at hf
       simp only [bwdK] at hf
       obtain ⟨⟨x1, x2, x3, x4⟩, hx, hf⟩ := Option.bind_eq_some_iff.mp hf
       dsimp only at hf
       have HX := Aside0.mk hx
       have cn := blk_cell (blk_below HBN.out HB.out) 0
       have cb := blk_cell (blk_below HBB.out HB.out) 0
       cases gk with
       | zero => exact absurd HK.out (Nat.not_lt_zero _)
       | succ kk =>
        by_cases h4 : x4 = 0
        ·rw [if_pos h4] at hf
         have HF2 := Aside0.mk hf
         have b4 : (x4 != 0) = false := by simpa using h4
         have hq2 : (-(k8 + 1)).toNat = q := by omega
         have hkk : q < kk := by have := HK.out; omega
         have w1 : wrap64 (k8 + 1) = k8 + 1 := wrap64_of (by have := HN.out; omega) (by omega)
         have HQ2 := Aside0.mk hq2
         have HKK := Aside0.mk hkk
         have HN2 := Aside0.mk (show -9223372036854775808 ≤ k8 + 1 by have := HN.out; omega)
         clear hx hf hq hq2 hkk
         go_wp2_with fail
         refine (step_Before.calls k A0 c0 b h x1 x2 x3 x4 _ (Kd.C_below HR0.out HB.out) HC0.out (laid_below HLB.out HB.out) HX.out).mono ?_
         rintro e W3 ⟨rfl, hb3⟩
         have HB3 := Aside0.mk (below_step HB.out hb3)
         clear hb3
         go_wp2
         go_roundg kk
         case measure => omega
         case rel => exact ⟨_, k8 + 1, rfl, by first | rfl | (simp [w1]; done), ⟨by rw [HQ2.out]; exact HF2.out⟩, ⟨by rw [HQ2.out]; exact HKK.out⟩, HN2, ⟨below_alloc HB3.out _⟩⟩
        ·rw [if_neg h4] at hf
         have hf := Option.some.inj hf
         subst hf
         have b4 : (x4 != 0) = true := by simpa using h4
         clear hx hq
         go_wp2_with fail
         refine (step_Before.calls k A0 c0 b h x1 x2 x3 x4 _ (Kd.C_below HR0.out HB.out) HC0.out (laid_below HLB.out HB.out) HX.out).mono ?_
         rintro e W3 ⟨rfl, hb3⟩
         have HB3 := Aside0.mk (below_step HB.out hb3)
         clear hb3
         go_wp2
         go_ret
         exact ⟨rfl, below_alloc HB3.out _⟩
      ·have d1 : decide (k8 < 0) = false := decide_eq_false hlt
       have hf := HF.out
       rw [show (-k8).toNat = 0 by omega] at hf
       have hf := Option.some.inj hf
       subst hf
       go_wp2
       go_ret
       exact ⟨rfl, HB.out⟩

  ·have d1 : decide (0 < k5) = false := decide_eq_false hlt
   have hf := HF.out
   rw [show k5.toNat = 0 by omega] at hf
   have hf := Option.some.inj hf
   subst hf
   have HB1 := HB
   have hm2 := HM20
   have HM2 := Aside0.mk hm2
   clear hm2 HF HK HN
   go_wp2
   go_loopg [0, 8] ((-n).toNat + 1) (fun kq v0 v8 W => ∃ (h k8 : Int), v0 = .int .i64 h ∧ v8 = .int .i64 k8 ∧ Aside0 (bwdK k b (-k8).toNat h = some r) ∧ Aside0 ((-k8).toNat < kq) ∧ Aside0 (-9223372036854775808 ≤ k8) ∧ Aside0 (Below w.heap.size w W))
   case atStart => exact ⟨_, n, rfl, rfl, HM2.out, ⟨Nat.lt_succ_self _⟩, ⟨hn0⟩, ⟨HB1.out⟩⟩
   case round =>
    obtain ⟨h, k8, rfl, rfl, HF, HK, HN, HB⟩ := hrel
    by_cases hlt : k8 < 0
    ·have d1 : decide (k8 < 0) = true := decide_eq_true hlt
     obtain ⟨q, hq⟩ : ∃ q, (-k8).toNat = q + 1 := ⟨(-k8).toNat - 1, by omega⟩
     have hf := HF.out
     rw [hq] at hf
     simp only [bwdK] at hf
     obtain ⟨⟨x1, x2, x3, x4⟩, hx, hf⟩ := Option.bind_eq_some_iff.mp hf
     dsimp only at hf
     have HX := Aside0.mk hx
     have cn := blk_cell (blk_below HBN.out HB.out) 0
     have cb := blk_cell (blk_below HBB.out HB.out) 0
     cases gk with
     | zero => exact absurd HK.out (Nat.not_lt_zero _)
     | succ kk =>
      by_cases h4 : x4 = 0
      ·rw [if_pos h4] at hf
       have HF2 := Aside0.mk hf
       have b4 : (x4 != 0) = false := by simpa using h4
       have hq2 : (-(k8 + 1)).toNat = q := by omega
       have hkk : q < kk := by have := HK.out; omega
       have w1 : wrap64 (k8 + 1) = k8 + 1 := wrap64_of (by have := HN.out; omega) (by omega)
       have HQ2 := Aside0.mk hq2
       have HKK := Aside0.mk hkk
       have HN2 := Aside0.mk (show -9223372036854775808 ≤ k8 + 1 by have := HN.out; omega)
       clear hx hf hq hq2 hkk
       go_wp2_with fail
       refine (step_Before.calls k A0 c0 b h x1 x2 x3 x4 _ (Kd.C_below HR0.out HB.out) HC0.out (laid_below HLB.out HB.out) HX.out).mono ?_
       rintro e W3 ⟨rfl, hb3⟩
       have HB3 := Aside0.mk (below_step HB.out hb3)
       clear hb3
       go_wp2
       go_roundg kk
       case measure => omega
       case rel => exact ⟨_, k8 + 1, rfl, by first | rfl | (simp [w1]; done), ⟨by rw [HQ2.out]; exact HF2.out⟩, ⟨by rw [HQ2.out]; exact HKK.out⟩, HN2, ⟨below_alloc HB3.out _⟩⟩
      ·rw [if_neg h4] at hf
       have hf := Option.some.inj hf
       subst hf
       have b4 : (x4 != 0) = true := by simpa using h4
       clear hx hq
       go_wp2_with fail
       refine (step_Before.calls k A0 c0 b h x1 x2 x3 x4 _ (Kd.C_below HR0.out HB.out) HC0.out (laid_below HLB.out HB.out) HX.out).mono ?_
       rintro e W3 ⟨rfl, hb3⟩
       have HB3 := Aside0.mk (below_step HB.out hb3)
       clear hb3
       go_wp2
       go_ret
       exact ⟨rfl, below_alloc HB3.out _⟩
    ·have d1 : decide (k8 < 0) = false := decide_eq_false hlt
     have hf := HF.out
     rw [show (-k8).toNat = 0 by omega] at hf
     have hf := Option.some.inj hf
     subst hf
     go_wp2
     go_ret
     exact ⟨rfl, HB.out⟩

end Go.Proofs.YtijbkiajhicooaaDoor.PW

namespace Go.Proofs.YtijbkiajhicooaaDoor.PW
open Go.RowKit Go.Proofs.YtijbkiajhicooaaDoorW.PrintWords Go.Proofs.YtijbkiajhicooaaDoorW.PrintLast Go.Proofs.YtijbkiajhicooaaDoorW.PrintMore
attribute [local go_sem] max2_int min2_int max_two min_two max_three min_three max_four min_four   -- for this text's walks alone
set_option linter.unusedVariables false
set_option linter.unusedSimpArgs false

def carets_low.f (a0_0 : Int) (a0_1 : Int) : Option (Int) := some (mn a0_0 a0_1)
set_option maxHeartbeats 8000000 in
set_option maxRecDepth 100000 in
theorem carets_low.calls (a0_0 : Int) (a0_1 : Int) (r : Int) (w : World) (h : carets_low.f a0_0 a0_1 = some r) :
  Calls Tryd.prog 75 #[.agg #[.int .i64 a0_0, .int .i64 a0_1]] w fun e w' => e = .returned (.int .i64 r) ∧ Below w.heap.size w w' := by
 have hu100 := Tryd.underlying100
 have HB := Aside0.mk (Below.refl w.heap.size w)
 have H : (some (mn a0_0 a0_1)) = some r := h
 clear h
 obtain ⟨ji2, hji2⟩ : ∃ j_ : Int, (mn a0_0 a0_1) = j_ := ⟨_, rfl⟩
 replace H : (some ji2) = some r := by first | (rw [hji2] at H; exact H) | (simp only [hji2] at H ⊢; exact H)
 have hji2_ : (if a0_1 < a0_0 then a0_1 else a0_0) = ji2 := hji2
 obtain rfl := Option.some.inj H
 go_enter Tryd.func75, Tryd.ntmps75
 go_wp2_with (first | ((with_reducible refine gate_dst (N := 1) rfl ?_); refine box_event ?hg (N := 1) ?hd (cs := #[.int .i64 a0_0, .int .i64 a0_1]) (t := 100) ?hr ?_; (case hd => rfl); (case hg => rfl); (case hr => first | (go_simp; done) | (go_simp; rfl)); intro gb101 hg w3 hbox hb; have n0_ := Aside0.mk (below_step (by repeat (first | (with_reducible first | exact HB.out | apply below_alloc | apply pw_below_drewN | apply below_drew1) | exact HB.out)) hb); have n1_ := Aside0.mk (hbox); have n2_ := Aside0.mk ((by rw [hg]; exact (below_size (by repeat (first | (with_reducible first | exact HB.out | apply below_alloc | apply pw_below_drewN | apply below_drew1) | exact HB.out))) : w.heap.size ≤ gb101)); have n3_ := Aside0.mk ((by rw [hg]; exact (below_size (by repeat (first | (with_reducible first | exact HB.out | apply below_alloc | apply pw_below_drewN | apply below_drew1) | exact HB.out))) : w.heap.size ≤ gb101)); clear HB; have HB := n0_; have BK101 := n1_; have GW101 := n2_; have GE101 := n3_; clear n0_ n1_ n2_ n3_; clear hb hbox hg; have hcz4_0 : w3.cell? ⟨gb101, 0, none⟩ = some (.int .i64 a0_0) := (blk_cell BK101.out 0).trans rfl; have hcz4_1 : w3.cell? ⟨gb101, 1, none⟩ = some (.int .i64 a0_1) := (blk_cell BK101.out 1).trans rfl; have hfz4_0 := blk_frozen BK101.out 0; have hfz4_1 := blk_frozen BK101.out 1))
 go_ret
 exact ⟨by first | rfl | (simp [errW_none, errW_some] <;> rfl) | (simp only [← hji2]; first | rfl | (simp [errW_none, errW_some] <;> rfl)) | (simp [*, errW_none, errW_some] <;> rfl), by repeat (first | (with_reducible first | exact HB.out | apply below_alloc | apply pw_below_drewN | apply below_drew1 | refine below_set ?_ GE101.out) | exact HB.out)⟩

end Go.Proofs.YtijbkiajhicooaaDoor.PW

namespace Go.Proofs.YtijbkiajhicooaaDoor.PW
open Go.RowKit Go.Proofs.YtijbkiajhicooaaDoorW.PrintWords Go.Proofs.YtijbkiajhicooaaDoorW.PrintLast Go.Proofs.YtijbkiajhicooaaDoorW.PrintMore
attribute [local go_sem] max2_int min2_int max_two min_two max_three min_three max_four min_four   -- for this text's walks alone
set_option linter.unusedVariables false
set_option linter.unusedSimpArgs false

def carets_high.f (a0_0 : Int) (a0_1 : Int) : Option (Int) := some (mx a0_0 a0_1)
set_option maxHeartbeats 8000000 in
set_option maxRecDepth 100000 in
theorem carets_high.calls (a0_0 : Int) (a0_1 : Int) (r : Int) (w : World) (h : carets_high.f a0_0 a0_1 = some r) :
  Calls Tryd.prog 76 #[.agg #[.int .i64 a0_0, .int .i64 a0_1]] w fun e w' => e = .returned (.int .i64 r) ∧ Below w.heap.size w w' := by
 have hu100 := Tryd.underlying100
 have HB := Aside0.mk (Below.refl w.heap.size w)
 have H : (some (mx a0_0 a0_1)) = some r := h
 clear h
 obtain ⟨ji2, hji2⟩ : ∃ j_ : Int, (mx a0_0 a0_1) = j_ := ⟨_, rfl⟩
 replace H : (some ji2) = some r := by first | (rw [hji2] at H; exact H) | (simp only [hji2] at H ⊢; exact H)
 have hji2_ : (if a0_0 < a0_1 then a0_1 else a0_0) = ji2 := hji2
 obtain rfl := Option.some.inj H
 go_enter Tryd.func76, Tryd.ntmps76
 go_wp2_with (first | ((with_reducible refine gate_dst (N := 1) rfl ?_); refine box_event ?hg (N := 1) ?hd (cs := #[.int .i64 a0_0, .int .i64 a0_1]) (t := 100) ?hr ?_; (case hd => rfl); (case hg => rfl); (case hr => first | (go_simp; done) | (go_simp; rfl)); intro gb102 hg w3 hbox hb; have n0_ := Aside0.mk (below_step (by repeat (first | (with_reducible first | exact HB.out | apply below_alloc | apply pw_below_drewN | apply below_drew1) | exact HB.out)) hb); have n1_ := Aside0.mk (hbox); have n2_ := Aside0.mk ((by rw [hg]; exact (below_size (by repeat (first | (with_reducible first | exact HB.out | apply below_alloc | apply pw_below_drewN | apply below_drew1) | exact HB.out))) : w.heap.size ≤ gb102)); have n3_ := Aside0.mk ((by rw [hg]; exact (below_size (by repeat (first | (with_reducible first | exact HB.out | apply below_alloc | apply pw_below_drewN | apply below_drew1) | exact HB.out))) : w.heap.size ≤ gb102)); clear HB; have HB := n0_; have BK102 := n1_; have GW102 := n2_; have GE102 := n3_; clear n0_ n1_ n2_ n3_; clear hb hbox hg; have hcz4_0 : w3.cell? ⟨gb102, 0, none⟩ = some (.int .i64 a0_0) := (blk_cell BK102.out 0).trans rfl; have hcz4_1 : w3.cell? ⟨gb102, 1, none⟩ = some (.int .i64 a0_1) := (blk_cell BK102.out 1).trans rfl; have hfz4_0 := blk_frozen BK102.out 0; have hfz4_1 := blk_frozen BK102.out 1))
 go_ret
 exact ⟨by first | rfl | (simp [errW_none, errW_some] <;> rfl) | (simp only [← hji2]; first | rfl | (simp [errW_none, errW_some] <;> rfl)) | (simp [*, errW_none, errW_some] <;> rfl), by repeat (first | (with_reducible first | exact HB.out | apply below_alloc | apply pw_below_drewN | apply below_drew1 | refine below_set ?_ GE102.out) | exact HB.out)⟩

end Go.Proofs.YtijbkiajhicooaaDoor.PW

namespace Go.Proofs.YtijbkiajhicooaaDoor.PW
open Go.RowKit Go.Proofs.YtijbkiajhicooaaDoorW.PrintWords Go.Proofs.YtijbkiajhicooaaDoorW.PrintLast Go.Proofs.YtijbkiajhicooaaDoorW.PrintMore
attribute [local go_sem] max2_int min2_int max_two min_two max_three min_three max_four min_four   -- for this text's walks alone
set_option linter.unusedVariables false
set_option linter.unusedSimpArgs false
/-- A call of a function value. -/
theorem goesV_ {P : Program} {ops : Array Oper} {Q : Exit → Act → World → Prop} {oi : Oper} {N : Option Tmp} {a : Act} {w : World} {K : Act → World → Prop} {f : FuncId} {fn : Func} {c : Operand} {xs_ : Array Operand} {ts : Array TypeId} (hf : P.funcs[f]? = some fn) (hname : (fn.name == "runtime.NumGoroutine") = false) (hb : fn.body.isSome = true) (args : Array Value)
  (hw : Region.wanted oi (yielded ops a.tmps) = true) (hN : oi.dst = N) (hop : oi.op = .call { callee := .value c, args := xs_, argTypes := ts }) (hc : a.eval c = .func (.func f) #[] #[]) (hargs : xs_.map a.eval = args)
  (h : Calls P f args w fun e w' => ∃ v, e = .returned v ∧ K (a.put N v) w') : if Region.wanted oi (yielded ops a.tmps) = true then Oper.wp P oi a w K Q else K (a.put N undef) w := by
 refine call_ f args hw hN ?_ h
 have he := enters_ hf hname hb args w
 unfold execOp
 simp [hop, resolve, Deferred.ofValue, invoke, hc, hargs, he]
def carets_settled_1.f (a0_0 : Int) (a0_1 : Int) (a1_0 : Int) (a1_1 : Int) : Option (Int) := (carets_low.f a0_0 a0_1).bind fun t105 => ((carets_low.f a1_0 a1_1).bind fun t106 => (if t105 = t106 then ((carets_high.f a0_0 a0_1).bind fun t107 => ((carets_high.f a1_0 a1_1).bind fun t108 => (some (wrap64 (t107 - t108))))) else ((carets_low.f a0_0 a0_1).bind fun t109 => ((carets_low.f a1_0 a1_1).bind fun t110 => (some (wrap64 (t109 - t110)))))))
set_option maxHeartbeats 8000000 in
set_option maxRecDepth 100000 in
theorem carets_settled_1.calls (a0_0 : Int) (a0_1 : Int) (a1_0 : Int) (a1_1 : Int) (r : Int) (w : World) (h : carets_settled_1.f a0_0 a0_1 a1_0 a1_1 = some r) :
  Calls Tryd.prog 89 #[.agg #[.int .i64 a0_0, .int .i64 a0_1], .agg #[.int .i64 a1_0, .int .i64 a1_1]] w fun e w' => e = .returned (.int .i64 r) ∧ Below w.heap.size w w' := by
 have hu100 := Tryd.underlying100
 have HB := Aside0.mk (Below.refl w.heap.size w)
 have H : ((carets_low.f a0_0 a0_1).bind fun t105 => ((carets_low.f a1_0 a1_1).bind fun t106 => (if t105 = t106 then ((carets_high.f a0_0 a0_1).bind fun t107 => ((carets_high.f a1_0 a1_1).bind fun t108 => (some (wrap64 (t107 - t108))))) else ((carets_low.f a0_0 a0_1).bind fun t109 => ((carets_low.f a1_0 a1_1).bind fun t110 => (some (wrap64 (t109 - t110)))))))) = some r := h
 clear h
 replace H := Option.bind_eq_some_iff.mp H
 obtain ⟨t105, A30, H⟩ := H
 replace H : ((carets_low.f a1_0 a1_1).bind fun t106 => (if t105 = t106 then ((carets_high.f a0_0 a0_1).bind fun t107 => ((carets_high.f a1_0 a1_1).bind fun t108 => (some (wrap64 (t107 - t108))))) else ((carets_low.f a0_0 a0_1).bind fun t109 => ((carets_low.f a1_0 a1_1).bind fun t110 => (some (wrap64 (t109 - t110))))))) = some r := H
 have A3 := Aside0.mk A30
 clear A30
 replace H := Option.bind_eq_some_iff.mp H
 obtain ⟨t106, A40, H⟩ := H
 replace H : (if t105 = t106 then ((carets_high.f a0_0 a0_1).bind fun t107 => ((carets_high.f a1_0 a1_1).bind fun t108 => (some (wrap64 (t107 - t108))))) else ((carets_low.f a0_0 a0_1).bind fun t109 => ((carets_low.f a1_0 a1_1).bind fun t110 => (some (wrap64 (t109 - t110)))))) = some r := H
 have A4 := Aside0.mk A40
 clear A40
 by_cases c5 : t105 = t106
 ·rw [if_pos c5] at H
  have c5b0 : (t105 == t106) = true := beq_iff_eq.mpr c5
  have c5b1 : (t105 != t106) = false := bne_eq_false_iff_eq.mpr c5
  clear c5
  replace H := Option.bind_eq_some_iff.mp H
  obtain ⟨t107, A60, H⟩ := H
  replace H : ((carets_high.f a1_0 a1_1).bind fun t108 => (some (wrap64 (t107 - t108)))) = some r := H
  have A6 := Aside0.mk A60
  clear A60
  replace H := Option.bind_eq_some_iff.mp H
  obtain ⟨t108, A70, H⟩ := H
  replace H : (some (wrap64 (t107 - t108))) = some r := H
  have A7 := Aside0.mk A70
  clear A70
  obtain rfl := Option.some.inj H
  go_enter Tryd.func89, Tryd.ntmps89
  try go_wp2_with (first | ((with_reducible refine gate_dst (N := 2) rfl ?_); refine box_event ?hg (N := 2) ?hd (cs := #[.int .i64 a0_0, .int .i64 a0_1]) (t := 100) ?hr ?_; (case hd => rfl); (case hg => rfl); (case hr => first | (go_simp; done) | (go_simp; rfl)); intro gb103 hg w8 hbox hb; have n0_ := Aside0.mk (below_step (by repeat (first | (with_reducible first | exact HB.out | apply below_alloc | apply pw_below_drewN | apply below_drew1) | exact HB.out)) hb); have n1_ := Aside0.mk (hbox); have n2_ := Aside0.mk ((by rw [hg]; exact (below_size (by repeat (first | (with_reducible first | exact HB.out | apply below_alloc | apply pw_below_drewN | apply below_drew1) | exact HB.out))) : w.heap.size ≤ gb103)); have n3_ := Aside0.mk ((by rw [hg]; exact (below_size (by repeat (first | (with_reducible first | exact HB.out | apply below_alloc | apply pw_below_drewN | apply below_drew1) | exact HB.out))) : w.heap.size ≤ gb103)); clear HB; have HB := n0_; have BK103 := n1_; have GW103 := n2_; have GE103 := n3_; clear n0_ n1_ n2_ n3_; clear hb hbox hg) | ((with_reducible refine gate_dst (N := 3) rfl ?_); refine box_event ?hg (N := 3) ?hd (cs := #[.int .i64 a1_0, .int .i64 a1_1]) (t := 100) ?hr ?_; (case hd => rfl); (case hg => rfl); (case hr => first | (go_simp; done) | (go_simp; rfl)); intro gb104 hg w9 hbox hb; have n0_ := Aside0.mk (blk_below (g := gb103) (o := .cells #[.int .i64 a0_0, .int .i64 a0_1] 100 (0, 0)) (by (with_reducible repeat (first | refine blk_drewN ?_ _ | refine blk_drew ?_ | refine blk_alloc ?_ _)); exact BK103.out) hb); have n1_ := Aside0.mk (below_step (by repeat (first | (with_reducible first | exact HB.out | apply below_alloc | apply pw_below_drewN | apply below_drew1 | refine below_set ?_ GE103.out) | exact HB.out)) hb); have n2_ := Aside0.mk (hbox); have n3_ := Aside0.mk ((by rw [hg]; exact (below_size (by repeat (first | (with_reducible first | exact HB.out | apply below_alloc | apply pw_below_drewN | apply below_drew1 | refine below_set ?_ GE103.out) | exact HB.out))) : w.heap.size ≤ gb104)); have n4_ := Aside0.mk ((by rw [hg]; exact (below_size (by repeat (first | (with_reducible first | exact HB.out | apply below_alloc | apply pw_below_drewN | apply below_drew1 | refine below_set ?_ GE103.out) | exact HB.out))) : w.heap.size ≤ gb104)); have n5_ := Aside0.mk ((by rw [hg]; exact Nat.ne_of_lt (blk_lt (g := gb103) (o := .cells #[.int .i64 a0_0, .int .i64 a0_1] 100 (0, 0)) (by (with_reducible repeat (first | refine blk_drewN ?_ _ | refine blk_drew ?_ | refine blk_alloc ?_ _)); exact BK103.out)) : gb103 ≠ gb104)); have n6_ := Aside0.mk ((by rw [hg]; exact Nat.ne_of_gt (blk_lt (g := gb103) (o := .cells #[.int .i64 a0_0, .int .i64 a0_1] 100 (0, 0)) (by (with_reducible repeat (first | refine blk_drewN ?_ _ | refine blk_drew ?_ | refine blk_alloc ?_ _)); exact BK103.out)) : gb104 ≠ gb103)); clear BK103; clear HB; have BK103 := n0_; have HB := n1_; have BK104 := n2_; have GW104 := n3_; have GE104 := n4_; have NB103_104 := n5_; have NB104_103 := n6_; clear n0_ n1_ n2_ n3_ n4_ n5_ n6_; clear hb hbox hg))
  have n0_ := Aside0.mk (blk_drew BK103.out)
  have n1_ := Aside0.mk (blk_drew BK104.out)
  have n2_ := Aside0.mk (below_drew1 HB.out)
  clear BK103 BK104 HB
  have BK103 := n0_
  have BK104 := n1_
  have HB := n2_
  clear n0_ n1_ n2_
  refine start_ (n := 5) (S := fun w' => w'.cell? ⟨gb103, 0, none⟩ = some (.int .i64 a0_0) ∧ w'.cell? ⟨gb103, 1, none⟩ = some (.int .i64 a0_1) ∧ w'.cell? ⟨gb104, 0, none⟩ = some (.int .i64 a1_0) ∧ w'.cell? ⟨gb104, 1, none⟩ = some (.int .i64 a1_1)) (ds := []) #[false, false, false, false, false] (by kernel_rfl) rfl rfl ⟨(blk_cell BK103.out 0).trans rfl, (blk_cell BK103.out 1).trans rfl, (blk_cell BK104.out 0).trans rfl, (blk_cell BK104.out 1).trans rfl⟩ (fun hHeld => ?_)
  generalize w9.drew = w10 at BK103 BK104 HB hHeld ⊢
  refine take_ (i := 0) (N := some 5) (v := ?_) (a' := ?_) #[true, false, false, false, false] rfl rfl (by kernel_rfl) (fun _ _ _ h => h) (Or.inl ⟨by rfl, ?_⟩) hHeld ?_ ?_
  rotate_left
  ·rintro w' ⟨s0, s1, s2, s3⟩
   go_simp
   with_reducible rfl
  rotate_left; ·(simp only [Act.put, List.setIfInBounds_toArray, List.set_cons_zero, List.set_cons_succ, i64_w, i32_w]; rfl)
  refine take_ (i := 2) (N := some 7) (v := ?_) (a' := ?_) #[true, false, true, false, false] rfl rfl (by kernel_rfl) (fun _ _ _ h => h) (Or.inl ⟨by rfl, ?_⟩) hHeld ?_ ?_
  rotate_left
  ·rintro w' ⟨s0, s1, s2, s3⟩
   go_simp
   with_reducible rfl
  rotate_left; ·(simp only [Act.put, List.setIfInBounds_toArray, List.set_cons_zero, List.set_cons_succ, i64_w, i32_w]; rfl)
  refine one_ (i := 1) (N := some 6) #[true, true, true, false, false] rfl rfl (by kernel_rfl) (by decide) (fun K hK => ?_)
  refine goes_ Tryd.func75 (by kernel_rfl) rfl #[.agg #[.int .i64 a0_0, .int .i64 a0_1]] (by rfl) rfl rfl (by (try simp only [List.map_toArray, List.map_cons, List.map_nil]); first | done | rfl | (simp only [List.length_drop, List.length_take]; rfl)) ?_
  with_reducible refine (carets_low.calls a0_0 a0_1 t105 _ A3.out).mono ?_
  rintro e w11 ⟨rfl, hb⟩
  refine ⟨_, rfl, ?_⟩
  have n0_ := Aside0.mk (blk_below (g := gb103) (o := .cells #[.int .i64 a0_0, .int .i64 a0_1] 100 (0, 0)) (by (with_reducible repeat (first | refine blk_drewN ?_ _ | refine blk_drew ?_ | refine blk_alloc ?_ _)); exact BK103.out) hb)
  have n1_ := Aside0.mk (blk_below (g := gb104) (o := .cells #[.int .i64 a1_0, .int .i64 a1_1] 100 (0, 0)) (by (with_reducible repeat (first | refine blk_drewN ?_ _ | refine blk_drew ?_ | refine blk_alloc ?_ _)); exact BK104.out) hb)
  have n2_ := Aside0.mk (below_step (by repeat (first | (with_reducible first | exact HB.out | apply below_alloc | apply pw_below_drewN | apply below_drew1 | refine below_set ?_ GE103.out | refine below_set ?_ GE104.out) | exact HB.out)) hb)
  clear BK103 BK104 HB
  have BK103 := n0_
  have BK104 := n1_
  have HB := n2_
  clear n0_ n1_ n2_
  (try clear hb)
  (try clear hb2)
  (try clear hk)
  (try clear hi)
  refine hK.out _ _ ⟨(blk_cell BK103.out 0).trans rfl, (blk_cell BK103.out 1).trans rfl, (blk_cell BK104.out 0).trans rfl, (blk_cell BK104.out 1).trans rfl⟩ (fun hHeld => ?_)
  clear hK K
  refine norm_ (a' := ?_) ?_ ?_
  rotate_left
  ·show Act.put _ (some 6) _ = _
   simp only [Act.put, List.setIfInBounds_toArray, List.set_cons_zero, List.set_cons_succ, i64_w, i32_w]
   rfl
  refine one_ (i := 3) (N := some 8) #[true, true, true, true, false] rfl rfl (by kernel_rfl) (by decide) (fun K hK => ?_)
  refine goes_ Tryd.func75 (by kernel_rfl) rfl #[.agg #[.int .i64 a1_0, .int .i64 a1_1]] (by rfl) rfl rfl (by (try simp only [List.map_toArray, List.map_cons, List.map_nil]); first | done | rfl | (simp only [List.length_drop, List.length_take]; rfl)) ?_
  with_reducible refine (carets_low.calls a1_0 a1_1 t106 _ A4.out).mono ?_
  rintro e w12 ⟨rfl, hb⟩
  refine ⟨_, rfl, ?_⟩
  have n0_ := Aside0.mk (blk_below (g := gb103) (o := .cells #[.int .i64 a0_0, .int .i64 a0_1] 100 (0, 0)) (by (with_reducible repeat (first | refine blk_drewN ?_ _ | refine blk_drew ?_ | refine blk_alloc ?_ _)); exact BK103.out) hb)
  have n1_ := Aside0.mk (blk_below (g := gb104) (o := .cells #[.int .i64 a1_0, .int .i64 a1_1] 100 (0, 0)) (by (with_reducible repeat (first | refine blk_drewN ?_ _ | refine blk_drew ?_ | refine blk_alloc ?_ _)); exact BK104.out) hb)
  have n2_ := Aside0.mk (below_step (by repeat (first | (with_reducible first | exact HB.out | apply below_alloc | apply pw_below_drewN | apply below_drew1 | refine below_set ?_ GE103.out | refine below_set ?_ GE104.out) | exact HB.out)) hb)
  clear BK103 BK104 HB
  have BK103 := n0_
  have BK104 := n1_
  have HB := n2_
  clear n0_ n1_ n2_
  (try clear hb)
  (try clear hb2)
  (try clear hk)
  (try clear hi)
  refine hK.out _ _ ⟨(blk_cell BK103.out 0).trans rfl, (blk_cell BK103.out 1).trans rfl, (blk_cell BK104.out 0).trans rfl, (blk_cell BK104.out 1).trans rfl⟩ (fun hHeld => ?_)
  clear hK K
  refine norm_ (a' := ?_) ?_ ?_
  rotate_left
  ·show Act.put _ (some 8) _ = _
   simp only [Act.put, List.setIfInBounds_toArray, List.set_cons_zero, List.set_cons_succ, i64_w, i32_w]
   rfl
  refine pure_ (i := 4) (N := some 9) (v := ?_) (a' := ?_) #[true, true, true, true, true] rfl rfl (by kernel_rfl) (fun _ _ _ h => h) (Or.inl ⟨by rfl, ?_⟩) ?_ ?_
  rotate_left; ·(intro w'; go_simp; with_reducible rfl)
  rotate_left; ·(simp only [Act.put, List.setIfInBounds_toArray, List.set_cons_zero, List.set_cons_succ, i64_w, i32_w]; rfl)
  refine done_ (by kernel_rfl) ?_
  try go_wp2
  have n0_ := Aside0.mk (blk_drew BK103.out)
  have n1_ := Aside0.mk (blk_drew BK104.out)
  have n2_ := Aside0.mk (below_drew1 HB.out)
  clear BK103 BK104 HB
  have BK103 := n0_
  have BK104 := n1_
  have HB := n2_
  clear n0_ n1_ n2_
  refine start_ (n := 6) (S := fun w' => w'.cell? ⟨gb103, 0, none⟩ = some (.int .i64 a0_0) ∧ w'.cell? ⟨gb103, 1, none⟩ = some (.int .i64 a0_1) ∧ w'.cell? ⟨gb104, 0, none⟩ = some (.int .i64 a1_0) ∧ w'.cell? ⟨gb104, 1, none⟩ = some (.int .i64 a1_1)) (ds := []) #[false, false, false, false, false, false] (by kernel_rfl) rfl rfl ⟨(blk_cell BK103.out 0).trans rfl, (blk_cell BK103.out 1).trans rfl, (blk_cell BK104.out 0).trans rfl, (blk_cell BK104.out 1).trans rfl⟩ (fun hHeld => ?_)
  generalize w12.drew = w13 at BK103 BK104 HB hHeld ⊢
  refine take_ (i := 0) (N := some 15) (v := ?_) (a' := ?_) #[true, false, false, false, false, false] rfl rfl (by kernel_rfl) (fun _ _ _ h => h) (Or.inl ⟨by rfl, ?_⟩) hHeld ?_ ?_
  rotate_left
  ·rintro w' ⟨s0, s1, s2, s3⟩
   go_simp
   with_reducible rfl
  rotate_left; ·(simp only [Act.put, List.setIfInBounds_toArray, List.set_cons_zero, List.set_cons_succ, i64_w, i32_w]; rfl)
  refine take_ (i := 2) (N := some 17) (v := ?_) (a' := ?_) #[true, false, true, false, false, false] rfl rfl (by kernel_rfl) (fun _ _ _ h => h) (Or.inl ⟨by rfl, ?_⟩) hHeld ?_ ?_
  rotate_left
  ·rintro w' ⟨s0, s1, s2, s3⟩
   go_simp
   with_reducible rfl
  rotate_left; ·(simp only [Act.put, List.setIfInBounds_toArray, List.set_cons_zero, List.set_cons_succ, i64_w, i32_w]; rfl)
  refine one_ (i := 1) (N := some 16) #[true, true, true, false, false, false] rfl rfl (by kernel_rfl) (by decide) (fun K hK => ?_)
  refine goes_ Tryd.func76 (by kernel_rfl) rfl #[.agg #[.int .i64 a0_0, .int .i64 a0_1]] (by rfl) rfl rfl (by (try simp only [List.map_toArray, List.map_cons, List.map_nil]); first | done | rfl | (simp only [List.length_drop, List.length_take]; rfl)) ?_
  with_reducible refine (carets_high.calls a0_0 a0_1 t107 _ A6.out).mono ?_
  rintro e w14 ⟨rfl, hb⟩
  refine ⟨_, rfl, ?_⟩
  have n0_ := Aside0.mk (blk_below (g := gb103) (o := .cells #[.int .i64 a0_0, .int .i64 a0_1] 100 (0, 0)) (by (with_reducible repeat (first | refine blk_drewN ?_ _ | refine blk_drew ?_ | refine blk_alloc ?_ _)); exact BK103.out) hb)
  have n1_ := Aside0.mk (blk_below (g := gb104) (o := .cells #[.int .i64 a1_0, .int .i64 a1_1] 100 (0, 0)) (by (with_reducible repeat (first | refine blk_drewN ?_ _ | refine blk_drew ?_ | refine blk_alloc ?_ _)); exact BK104.out) hb)
  have n2_ := Aside0.mk (below_step (by repeat (first | (with_reducible first | exact HB.out | apply below_alloc | apply pw_below_drewN | apply below_drew1 | refine below_set ?_ GE103.out | refine below_set ?_ GE104.out) | exact HB.out)) hb)
  clear BK103 BK104 HB
  have BK103 := n0_
  have BK104 := n1_
  have HB := n2_
  clear n0_ n1_ n2_
  (try clear hb)
  (try clear hb2)
  (try clear hk)
  (try clear hi)
  refine hK.out _ _ ⟨(blk_cell BK103.out 0).trans rfl, (blk_cell BK103.out 1).trans rfl, (blk_cell BK104.out 0).trans rfl, (blk_cell BK104.out 1).trans rfl⟩ (fun hHeld => ?_)
  clear hK K
  refine norm_ (a' := ?_) ?_ ?_
  rotate_left
  ·show Act.put _ (some 16) _ = _
   simp only [Act.put, List.setIfInBounds_toArray, List.set_cons_zero, List.set_cons_succ, i64_w, i32_w]
   rfl
  refine one_ (i := 3) (N := some 18) #[true, true, true, true, false, false] rfl rfl (by kernel_rfl) (by decide) (fun K hK => ?_)
  refine goes_ Tryd.func76 (by kernel_rfl) rfl #[.agg #[.int .i64 a1_0, .int .i64 a1_1]] (by rfl) rfl rfl (by (try simp only [List.map_toArray, List.map_cons, List.map_nil]); first | done | rfl | (simp only [List.length_drop, List.length_take]; rfl)) ?_
  with_reducible refine (carets_high.calls a1_0 a1_1 t108 _ A7.out).mono ?_
  rintro e w15 ⟨rfl, hb⟩
  refine ⟨_, rfl, ?_⟩
  have n0_ := Aside0.mk (blk_below (g := gb103) (o := .cells #[.int .i64 a0_0, .int .i64 a0_1] 100 (0, 0)) (by (with_reducible repeat (first | refine blk_drewN ?_ _ | refine blk_drew ?_ | refine blk_alloc ?_ _)); exact BK103.out) hb)
  have n1_ := Aside0.mk (blk_below (g := gb104) (o := .cells #[.int .i64 a1_0, .int .i64 a1_1] 100 (0, 0)) (by (with_reducible repeat (first | refine blk_drewN ?_ _ | refine blk_drew ?_ | refine blk_alloc ?_ _)); exact BK104.out) hb)
  have n2_ := Aside0.mk (below_step (by repeat (first | (with_reducible first | exact HB.out | apply below_alloc | apply pw_below_drewN | apply below_drew1 | refine below_set ?_ GE103.out | refine below_set ?_ GE104.out) | exact HB.out)) hb)
  clear BK103 BK104 HB
  have BK103 := n0_
  have BK104 := n1_
  have HB := n2_
  clear n0_ n1_ n2_
  (try clear hb)
  (try clear hb2)
  (try clear hk)
  (try clear hi)
  refine hK.out _ _ ⟨(blk_cell BK103.out 0).trans rfl, (blk_cell BK103.out 1).trans rfl, (blk_cell BK104.out 0).trans rfl, (blk_cell BK104.out 1).trans rfl⟩ (fun hHeld => ?_)
  clear hK K
  refine norm_ (a' := ?_) ?_ ?_
  rotate_left
  ·show Act.put _ (some 18) _ = _
   simp only [Act.put, List.setIfInBounds_toArray, List.set_cons_zero, List.set_cons_succ, i64_w, i32_w]
   rfl
  refine pure_ (i := 4) (N := some 19) (v := ?_) (a' := ?_) #[true, true, true, true, true, false] rfl rfl (by kernel_rfl) (fun _ _ _ h => h) (Or.inl ⟨by rfl, ?_⟩) ?_ ?_
  rotate_left; ·(intro w'; go_simp; with_reducible rfl)
  rotate_left; ·(simp only [Act.put, List.setIfInBounds_toArray, List.set_cons_zero, List.set_cons_succ, i64_w, i32_w]; rfl)
  refine pure_ (i := 5) (N := some 4) (v := ?_) (a' := ?_) #[true, true, true, true, true, true] rfl rfl (by kernel_rfl) (fun _ _ _ h => h) (Or.inl ⟨by rfl, ?_⟩) ?_ ?_
  rotate_left; ·(intro w'; go_simp; with_reducible rfl)
  rotate_left; ·(simp only [Act.put, List.setIfInBounds_toArray, List.set_cons_zero, List.set_cons_succ, i64_w, i32_w]; rfl)
  refine done_ (by kernel_rfl) ?_
  try go_wp2
  go_ret
  exact ⟨by first | rfl | (simp [errW_none, errW_some] <;> rfl) | (simp [*, errW_none, errW_some] <;> rfl), by repeat (first | (with_reducible first | exact HB.out | apply below_alloc | apply pw_below_drewN | apply below_drew1 | refine below_set ?_ GE103.out | refine below_set ?_ GE104.out) | exact HB.out)⟩
 ·rw [if_neg c5] at H
  have c5b0 : (t105 == t106) = false := beq_eq_false_iff_ne.mpr c5
  have c5b1 : (t105 != t106) = true := bne_iff_ne.mpr c5
  replace H := Option.bind_eq_some_iff.mp H
  obtain ⟨t109, A160, H⟩ := H
  replace H : ((carets_low.f a1_0 a1_1).bind fun t110 => (some (wrap64 (t109 - t110)))) = some r := H
  have A16 := Aside0.mk A160
  clear A160
  replace H := Option.bind_eq_some_iff.mp H
  obtain ⟨t110, A170, H⟩ := H
  replace H : (some (wrap64 (t109 - t110))) = some r := H
  have A17 := Aside0.mk A170
  clear A170
  obtain rfl := Option.some.inj H
  go_enter Tryd.func89, Tryd.ntmps89
  try go_wp2_with (first | ((with_reducible refine gate_dst (N := 2) rfl ?_); refine box_event ?hg (N := 2) ?hd (cs := #[.int .i64 a0_0, .int .i64 a0_1]) (t := 100) ?hr ?_; (case hd => rfl); (case hg => rfl); (case hr => first | (go_simp; done) | (go_simp; rfl)); intro gb103 hg w18 hbox hb; have n0_ := Aside0.mk (below_step (by repeat (first | (with_reducible first | exact HB.out | apply below_alloc | apply pw_below_drewN | apply below_drew1) | exact HB.out)) hb); have n1_ := Aside0.mk (hbox); have n2_ := Aside0.mk ((by rw [hg]; exact (below_size (by repeat (first | (with_reducible first | exact HB.out | apply below_alloc | apply pw_below_drewN | apply below_drew1) | exact HB.out))) : w.heap.size ≤ gb103)); have n3_ := Aside0.mk ((by rw [hg]; exact (below_size (by repeat (first | (with_reducible first | exact HB.out | apply below_alloc | apply pw_below_drewN | apply below_drew1) | exact HB.out))) : w.heap.size ≤ gb103)); clear HB; have HB := n0_; have BK103 := n1_; have GW103 := n2_; have GE103 := n3_; clear n0_ n1_ n2_ n3_; clear hb hbox hg) | ((with_reducible refine gate_dst (N := 3) rfl ?_); refine box_event ?hg (N := 3) ?hd (cs := #[.int .i64 a1_0, .int .i64 a1_1]) (t := 100) ?hr ?_; (case hd => rfl); (case hg => rfl); (case hr => first | (go_simp; done) | (go_simp; rfl)); intro gb104 hg w19 hbox hb; have n0_ := Aside0.mk (blk_below (g := gb103) (o := .cells #[.int .i64 a0_0, .int .i64 a0_1] 100 (0, 0)) (by (with_reducible repeat (first | refine blk_drewN ?_ _ | refine blk_drew ?_ | refine blk_alloc ?_ _)); exact BK103.out) hb); have n1_ := Aside0.mk (below_step (by repeat (first | (with_reducible first | exact HB.out | apply below_alloc | apply pw_below_drewN | apply below_drew1 | refine below_set ?_ GE103.out) | exact HB.out)) hb); have n2_ := Aside0.mk (hbox); have n3_ := Aside0.mk ((by rw [hg]; exact (below_size (by repeat (first | (with_reducible first | exact HB.out | apply below_alloc | apply pw_below_drewN | apply below_drew1 | refine below_set ?_ GE103.out) | exact HB.out))) : w.heap.size ≤ gb104)); have n4_ := Aside0.mk ((by rw [hg]; exact (below_size (by repeat (first | (with_reducible first | exact HB.out | apply below_alloc | apply pw_below_drewN | apply below_drew1 | refine below_set ?_ GE103.out) | exact HB.out))) : w.heap.size ≤ gb104)); have n5_ := Aside0.mk ((by rw [hg]; exact Nat.ne_of_lt (blk_lt (g := gb103) (o := .cells #[.int .i64 a0_0, .int .i64 a0_1] 100 (0, 0)) (by (with_reducible repeat (first | refine blk_drewN ?_ _ | refine blk_drew ?_ | refine blk_alloc ?_ _)); exact BK103.out)) : gb103 ≠ gb104)); have n6_ := Aside0.mk ((by rw [hg]; exact Nat.ne_of_gt (blk_lt (g := gb103) (o := .cells #[.int .i64 a0_0, .int .i64 a0_1] 100 (0, 0)) (by (with_reducible repeat (first | refine blk_drewN ?_ _ | refine blk_drew ?_ | refine blk_alloc ?_ _)); exact BK103.out)) : gb104 ≠ gb103)); clear BK103; clear HB; have BK103 := n0_; have HB := n1_; have BK104 := n2_; have GW104 := n3_; have GE104 := n4_; have NB103_104 := n5_; have NB104_103 := n6_; clear n0_ n1_ n2_ n3_ n4_ n5_ n6_; clear hb hbox hg))
  have n0_ := Aside0.mk (blk_drew BK103.out)
  have n1_ := Aside0.mk (blk_drew BK104.out)
  have n2_ := Aside0.mk (below_drew1 HB.out)
  clear BK103 BK104 HB
  have BK103 := n0_
  have BK104 := n1_
  have HB := n2_
  clear n0_ n1_ n2_
  refine start_ (n := 5) (S := fun w' => w'.cell? ⟨gb103, 0, none⟩ = some (.int .i64 a0_0) ∧ w'.cell? ⟨gb103, 1, none⟩ = some (.int .i64 a0_1) ∧ w'.cell? ⟨gb104, 0, none⟩ = some (.int .i64 a1_0) ∧ w'.cell? ⟨gb104, 1, none⟩ = some (.int .i64 a1_1)) (ds := []) #[false, false, false, false, false] (by kernel_rfl) rfl rfl ⟨(blk_cell BK103.out 0).trans rfl, (blk_cell BK103.out 1).trans rfl, (blk_cell BK104.out 0).trans rfl, (blk_cell BK104.out 1).trans rfl⟩ (fun hHeld => ?_)
  generalize w19.drew = w20 at BK103 BK104 HB hHeld ⊢
  refine take_ (i := 0) (N := some 5) (v := ?_) (a' := ?_) #[true, false, false, false, false] rfl rfl (by kernel_rfl) (fun _ _ _ h => h) (Or.inl ⟨by rfl, ?_⟩) hHeld ?_ ?_
  rotate_left
  ·rintro w' ⟨s0, s1, s2, s3⟩
   go_simp
   with_reducible rfl
  rotate_left; ·(simp only [Act.put, List.setIfInBounds_toArray, List.set_cons_zero, List.set_cons_succ, i64_w, i32_w]; rfl)
  refine take_ (i := 2) (N := some 7) (v := ?_) (a' := ?_) #[true, false, true, false, false] rfl rfl (by kernel_rfl) (fun _ _ _ h => h) (Or.inl ⟨by rfl, ?_⟩) hHeld ?_ ?_
  rotate_left
  ·rintro w' ⟨s0, s1, s2, s3⟩
   go_simp
   with_reducible rfl
  rotate_left; ·(simp only [Act.put, List.setIfInBounds_toArray, List.set_cons_zero, List.set_cons_succ, i64_w, i32_w]; rfl)
  refine one_ (i := 1) (N := some 6) #[true, true, true, false, false] rfl rfl (by kernel_rfl) (by decide) (fun K hK => ?_)
  refine goes_ Tryd.func75 (by kernel_rfl) rfl #[.agg #[.int .i64 a0_0, .int .i64 a0_1]] (by rfl) rfl rfl (by (try simp only [List.map_toArray, List.map_cons, List.map_nil]); first | done | rfl | (simp only [List.length_drop, List.length_take]; rfl)) ?_
  with_reducible refine (carets_low.calls a0_0 a0_1 t105 _ A3.out).mono ?_
  rintro e w21 ⟨rfl, hb⟩
  refine ⟨_, rfl, ?_⟩
  have n0_ := Aside0.mk (blk_below (g := gb103) (o := .cells #[.int .i64 a0_0, .int .i64 a0_1] 100 (0, 0)) (by (with_reducible repeat (first | refine blk_drewN ?_ _ | refine blk_drew ?_ | refine blk_alloc ?_ _)); exact BK103.out) hb)
  have n1_ := Aside0.mk (blk_below (g := gb104) (o := .cells #[.int .i64 a1_0, .int .i64 a1_1] 100 (0, 0)) (by (with_reducible repeat (first | refine blk_drewN ?_ _ | refine blk_drew ?_ | refine blk_alloc ?_ _)); exact BK104.out) hb)
  have n2_ := Aside0.mk (below_step (by repeat (first | (with_reducible first | exact HB.out | apply below_alloc | apply pw_below_drewN | apply below_drew1 | refine below_set ?_ GE103.out | refine below_set ?_ GE104.out) | exact HB.out)) hb)
  clear BK103 BK104 HB
  have BK103 := n0_
  have BK104 := n1_
  have HB := n2_
  clear n0_ n1_ n2_
  (try clear hb)
  (try clear hb2)
  (try clear hk)
  (try clear hi)
  refine hK.out _ _ ⟨(blk_cell BK103.out 0).trans rfl, (blk_cell BK103.out 1).trans rfl, (blk_cell BK104.out 0).trans rfl, (blk_cell BK104.out 1).trans rfl⟩ (fun hHeld => ?_)
  clear hK K
  refine norm_ (a' := ?_) ?_ ?_
  rotate_left
  ·show Act.put _ (some 6) _ = _
   simp only [Act.put, List.setIfInBounds_toArray, List.set_cons_zero, List.set_cons_succ, i64_w, i32_w]
   rfl
  refine one_ (i := 3) (N := some 8) #[true, true, true, true, false] rfl rfl (by kernel_rfl) (by decide) (fun K hK => ?_)
  refine goes_ Tryd.func75 (by kernel_rfl) rfl #[.agg #[.int .i64 a1_0, .int .i64 a1_1]] (by rfl) rfl rfl (by (try simp only [List.map_toArray, List.map_cons, List.map_nil]); first | done | rfl | (simp only [List.length_drop, List.length_take]; rfl)) ?_
  with_reducible refine (carets_low.calls a1_0 a1_1 t106 _ A4.out).mono ?_
  rintro e w22 ⟨rfl, hb⟩
  refine ⟨_, rfl, ?_⟩
  have n0_ := Aside0.mk (blk_below (g := gb103) (o := .cells #[.int .i64 a0_0, .int .i64 a0_1] 100 (0, 0)) (by (with_reducible repeat (first | refine blk_drewN ?_ _ | refine blk_drew ?_ | refine blk_alloc ?_ _)); exact BK103.out) hb)
  have n1_ := Aside0.mk (blk_below (g := gb104) (o := .cells #[.int .i64 a1_0, .int .i64 a1_1] 100 (0, 0)) (by (with_reducible repeat (first | refine blk_drewN ?_ _ | refine blk_drew ?_ | refine blk_alloc ?_ _)); exact BK104.out) hb)
  have n2_ := Aside0.mk (below_step (by repeat (first | (with_reducible first | exact HB.out | apply below_alloc | apply pw_below_drewN | apply below_drew1 | refine below_set ?_ GE103.out | refine below_set ?_ GE104.out) | exact HB.out)) hb)
  clear BK103 BK104 HB
  have BK103 := n0_
  have BK104 := n1_
  have HB := n2_
  clear n0_ n1_ n2_
  (try clear hb)
  (try clear hb2)
  (try clear hk)
  (try clear hi)
  refine hK.out _ _ ⟨(blk_cell BK103.out 0).trans rfl, (blk_cell BK103.out 1).trans rfl, (blk_cell BK104.out 0).trans rfl, (blk_cell BK104.out 1).trans rfl⟩ (fun hHeld => ?_)
  clear hK K
  refine norm_ (a' := ?_) ?_ ?_
  rotate_left
  ·show Act.put _ (some 8) _ = _
   simp only [Act.put, List.setIfInBounds_toArray, List.set_cons_zero, List.set_cons_succ, i64_w, i32_w]
   rfl
  refine pure_ (i := 4) (N := some 9) (v := ?_) (a' := ?_) #[true, true, true, true, true] rfl rfl (by kernel_rfl) (fun _ _ _ h => h) (Or.inl ⟨by rfl, ?_⟩) ?_ ?_
  rotate_left; ·(intro w'; go_simp; with_reducible rfl)
  rotate_left; ·(simp only [Act.put, List.setIfInBounds_toArray, List.set_cons_zero, List.set_cons_succ, i64_w, i32_w]; rfl)
  refine done_ (by kernel_rfl) ?_
  try go_wp2
  have n0_ := Aside0.mk (blk_drew BK103.out)
  have n1_ := Aside0.mk (blk_drew BK104.out)
  have n2_ := Aside0.mk (below_drew1 HB.out)
  clear BK103 BK104 HB
  have BK103 := n0_
  have BK104 := n1_
  have HB := n2_
  clear n0_ n1_ n2_
  refine start_ (n := 6) (S := fun w' => w'.cell? ⟨gb103, 0, none⟩ = some (.int .i64 a0_0) ∧ w'.cell? ⟨gb103, 1, none⟩ = some (.int .i64 a0_1) ∧ w'.cell? ⟨gb104, 0, none⟩ = some (.int .i64 a1_0) ∧ w'.cell? ⟨gb104, 1, none⟩ = some (.int .i64 a1_1)) (ds := []) #[false, false, false, false, false, false] (by kernel_rfl) rfl rfl ⟨(blk_cell BK103.out 0).trans rfl, (blk_cell BK103.out 1).trans rfl, (blk_cell BK104.out 0).trans rfl, (blk_cell BK104.out 1).trans rfl⟩ (fun hHeld => ?_)
  generalize w22.drew = w23 at BK103 BK104 HB hHeld ⊢
  refine take_ (i := 0) (N := some 10) (v := ?_) (a' := ?_) #[true, false, false, false, false, false] rfl rfl (by kernel_rfl) (fun _ _ _ h => h) (Or.inl ⟨by rfl, ?_⟩) hHeld ?_ ?_
  rotate_left
  ·rintro w' ⟨s0, s1, s2, s3⟩
   go_simp
   with_reducible rfl
  rotate_left; ·(simp only [Act.put, List.setIfInBounds_toArray, List.set_cons_zero, List.set_cons_succ, i64_w, i32_w]; rfl)
  refine take_ (i := 2) (N := some 12) (v := ?_) (a' := ?_) #[true, false, true, false, false, false] rfl rfl (by kernel_rfl) (fun _ _ _ h => h) (Or.inl ⟨by rfl, ?_⟩) hHeld ?_ ?_
  rotate_left
  ·rintro w' ⟨s0, s1, s2, s3⟩
   go_simp
   with_reducible rfl
  rotate_left; ·(simp only [Act.put, List.setIfInBounds_toArray, List.set_cons_zero, List.set_cons_succ, i64_w, i32_w]; rfl)
  refine one_ (i := 1) (N := some 11) #[true, true, true, false, false, false] rfl rfl (by kernel_rfl) (by decide) (fun K hK => ?_)
  refine goes_ Tryd.func75 (by kernel_rfl) rfl #[.agg #[.int .i64 a0_0, .int .i64 a0_1]] (by rfl) rfl rfl (by (try simp only [List.map_toArray, List.map_cons, List.map_nil]); first | done | rfl | (simp only [List.length_drop, List.length_take]; rfl)) ?_
  with_reducible refine (carets_low.calls a0_0 a0_1 t109 _ A16.out).mono ?_
  rintro e w24 ⟨rfl, hb⟩
  refine ⟨_, rfl, ?_⟩
  have n0_ := Aside0.mk (blk_below (g := gb103) (o := .cells #[.int .i64 a0_0, .int .i64 a0_1] 100 (0, 0)) (by (with_reducible repeat (first | refine blk_drewN ?_ _ | refine blk_drew ?_ | refine blk_alloc ?_ _)); exact BK103.out) hb)
  have n1_ := Aside0.mk (blk_below (g := gb104) (o := .cells #[.int .i64 a1_0, .int .i64 a1_1] 100 (0, 0)) (by (with_reducible repeat (first | refine blk_drewN ?_ _ | refine blk_drew ?_ | refine blk_alloc ?_ _)); exact BK104.out) hb)
  have n2_ := Aside0.mk (below_step (by repeat (first | (with_reducible first | exact HB.out | apply below_alloc | apply pw_below_drewN | apply below_drew1 | refine below_set ?_ GE103.out | refine below_set ?_ GE104.out) | exact HB.out)) hb)
  clear BK103 BK104 HB
  have BK103 := n0_
  have BK104 := n1_
  have HB := n2_
  clear n0_ n1_ n2_
  (try clear hb)
  (try clear hb2)
  (try clear hk)
  (try clear hi)
  refine hK.out _ _ ⟨(blk_cell BK103.out 0).trans rfl, (blk_cell BK103.out 1).trans rfl, (blk_cell BK104.out 0).trans rfl, (blk_cell BK104.out 1).trans rfl⟩ (fun hHeld => ?_)
  clear hK K
  refine norm_ (a' := ?_) ?_ ?_
  rotate_left
  ·show Act.put _ (some 11) _ = _
   simp only [Act.put, List.setIfInBounds_toArray, List.set_cons_zero, List.set_cons_succ, i64_w, i32_w]
   rfl
  refine one_ (i := 3) (N := some 13) #[true, true, true, true, false, false] rfl rfl (by kernel_rfl) (by decide) (fun K hK => ?_)
  refine goes_ Tryd.func75 (by kernel_rfl) rfl #[.agg #[.int .i64 a1_0, .int .i64 a1_1]] (by rfl) rfl rfl (by (try simp only [List.map_toArray, List.map_cons, List.map_nil]); first | done | rfl | (simp only [List.length_drop, List.length_take]; rfl)) ?_
  with_reducible refine (carets_low.calls a1_0 a1_1 t110 _ A17.out).mono ?_
  rintro e w25 ⟨rfl, hb⟩
  refine ⟨_, rfl, ?_⟩
  have n0_ := Aside0.mk (blk_below (g := gb103) (o := .cells #[.int .i64 a0_0, .int .i64 a0_1] 100 (0, 0)) (by (with_reducible repeat (first | refine blk_drewN ?_ _ | refine blk_drew ?_ | refine blk_alloc ?_ _)); exact BK103.out) hb)
  have n1_ := Aside0.mk (blk_below (g := gb104) (o := .cells #[.int .i64 a1_0, .int .i64 a1_1] 100 (0, 0)) (by (with_reducible repeat (first | refine blk_drewN ?_ _ | refine blk_drew ?_ | refine blk_alloc ?_ _)); exact BK104.out) hb)
  have n2_ := Aside0.mk (below_step (by repeat (first | (with_reducible first | exact HB.out | apply below_alloc | apply pw_below_drewN | apply below_drew1 | refine below_set ?_ GE103.out | refine below_set ?_ GE104.out) | exact HB.out)) hb)
  clear BK103 BK104 HB
  have BK103 := n0_
  have BK104 := n1_
  have HB := n2_
  clear n0_ n1_ n2_
  (try clear hb)
  (try clear hb2)
  (try clear hk)
  (try clear hi)
  refine hK.out _ _ ⟨(blk_cell BK103.out 0).trans rfl, (blk_cell BK103.out 1).trans rfl, (blk_cell BK104.out 0).trans rfl, (blk_cell BK104.out 1).trans rfl⟩ (fun hHeld => ?_)
  clear hK K
  refine norm_ (a' := ?_) ?_ ?_
  rotate_left
  ·show Act.put _ (some 13) _ = _
   simp only [Act.put, List.setIfInBounds_toArray, List.set_cons_zero, List.set_cons_succ, i64_w, i32_w]
   rfl
  refine pure_ (i := 4) (N := some 14) (v := ?_) (a' := ?_) #[true, true, true, true, true, false] rfl rfl (by kernel_rfl) (fun _ _ _ h => h) (Or.inl ⟨by rfl, ?_⟩) ?_ ?_
  rotate_left; ·(intro w'; go_simp; with_reducible rfl)
  rotate_left; ·(simp only [Act.put, List.setIfInBounds_toArray, List.set_cons_zero, List.set_cons_succ, i64_w, i32_w]; rfl)
  refine pure_ (i := 5) (N := some 4) (v := ?_) (a' := ?_) #[true, true, true, true, true, true] rfl rfl (by kernel_rfl) (fun _ _ _ h => h) (Or.inl ⟨by rfl, ?_⟩) ?_ ?_
  rotate_left; ·(intro w'; go_simp; with_reducible rfl)
  rotate_left; ·(simp only [Act.put, List.setIfInBounds_toArray, List.set_cons_zero, List.set_cons_succ, i64_w, i32_w]; rfl)
  refine done_ (by kernel_rfl) ?_
  try go_wp2
  go_ret
  exact ⟨by first | rfl | (simp [errW_none, errW_some] <;> rfl) | (simp [*, errW_none, errW_some] <;> rfl), by repeat (first | (with_reducible first | exact HB.out | apply below_alloc | apply pw_below_drewN | apply below_drew1 | refine below_set ?_ GE103.out | refine below_set ?_ GE104.out) | exact HB.out)⟩

end Go.Proofs.YtijbkiajhicooaaDoor.PW

