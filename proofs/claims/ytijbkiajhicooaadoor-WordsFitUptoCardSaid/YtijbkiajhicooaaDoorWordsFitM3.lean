-- Written by merge.py, a program of this session's: PWx12 PWx16 PWx17 PWx18 PWx20 PWx21 PWx2 PWx3 PWx23 PWx24 PWx25 PWx26 PWx28 PWx32 PWx33 PWx36
import Derived.Test.YtijbkiajhicooaaDoorWordsFitM1
import Derived.Test.YtijbkiajhicooaaDoorWordsFitM2
import Derived.Lib.OthersKept
import Derived.Maps.OwnIn
import Derived.RangeFuncNested
import Derived.RangeFuncLeaves
import Derived.Shelf.Abstract
import Derived.Shelf.RegionOpen
import Derived.OwnWalkIn
import Derived.TacticsInMore
import Derived.LoopNIn
import Derived.LoopIn
import Derived.Lib.SlBytesConst
namespace Go.Proofs.YtijbkiajhicooaaDoor.PW
open Go.RowKit Go.Proofs.YtijbkiajhicooaaDoorW.PrintWords Go.Proofs.YtijbkiajhicooaaDoorW.PrintLast Go.Proofs.YtijbkiajhicooaaDoorW.PrintMore
attribute [local go_sem] max2_int min2_int max_two min_two max_three min_three max_four min_four   -- for this text's walks alone
set_option linter.unusedVariables false
set_option linter.unusedSimpArgs false

def words_Prev.l0 : Nat → Int → Int → List (S36) → Int → Int → Option (Int × Int)
 | 0, _, _, _, _, _ => none
 | k + 1, x1, x6, x13, x14, x15 => if x15 < x14 then (if 0 ≤ x15 then (if x15 < (x13.length : Int) then (if ((rd_T36 x13 x15).f0) < x1 then (words_Prev.l0 k x1 ((rd_T36 x13 x15).f0) x13 x14 (wrap64 (x15 + 1))) else (words_Prev.l0 k x1 x6 x13 x14 (wrap64 (x15 + 1)))) else (none)) else (none)) else (some (x6, 0))
def words_Prev.f (k : Nat) (l0 : List Int) (a1 : Int) : Option (Int × Int) := (words_outside.f l0 a1).bind fun t127 => (if t127 = true then (some (0, 2)) else ((words_All.f k l0).bind fun t128 => (words_Prev.l0 k a1 0 t128 (t128.length : Int) 0)))
set_option maxHeartbeats 8000000 in
set_option maxRecDepth 100000 in
theorem words_Prev.calls (k : Nat) (A0 : Option Addr) (c0 : Nat) (l0 : List Int) (a1 : Int) (r1 : Int) (r2 : Int) (w : World) (hr0 : Kd.C (Kd.int .u8) w A0 l0.length l0) (hc0 : l0.length ≤ c0) (hL : LaidBad w) (h : words_Prev.f k l0 a1 = some (r1, r2)) :
  Calls Tryd.prog 24 #[.slice A0 l0.length c0, .int .i64 a1] w fun e w' => e = .returned (.tuple #[.int .i64 r1, .int .i64 r2]) ∧ Below w.heap.size w w' := by
 have hu36 := Tryd.underlying36
 have HR0 := Aside0.mk hr0
 have HC0 := Aside0.mk hc0
 clear hr0 hc0
 have HB := Aside0.mk (Below.refl w.heap.size w)
 have HLB := Aside0.mk hL
 clear hL
 have H : ((words_outside.f l0 a1).bind fun t127 => (if t127 = true then (some (0, 2)) else ((words_All.f k l0).bind fun t128 => (words_Prev.l0 k a1 0 t128 (t128.length : Int) 0)))) = some (r1, r2) := h
 clear h
 replace H := Option.bind_eq_some_iff.mp H
 obtain ⟨t127, A30, H⟩ := H
 replace H : (if t127 = true then (some (0, 2)) else ((words_All.f k l0).bind fun t128 => (words_Prev.l0 k a1 0 t128 (t128.length : Int) 0))) = some (r1, r2) := H
 have A3 := Aside0.mk A30
 clear A30
 by_cases c4 : t127 = true
 ·subst c4
  have H1 : (some (0, 2)) = some (r1, r2) := by rw [if_pos rfl] at H; exact H
  clear H
  have H := H1
  clear H1
  simp only [Option.some.injEq, Prod.mk.injEq] at H
  obtain ⟨rfl, rfl⟩ := H
  go_enter Tryd.func24, Tryd.ntmps24
  go_wp2_with (first | ((with_reducible refine gate_callee (f := 44) rfl ?_); refine goesL_ (some 11) rfl rfl Tryd.func44 (by kernel_rfl) rfl #[.slice A0 l0.length c0, .int .i64 a1] rfl (by (try simp only [List.map_toArray, List.map_cons, List.map_nil]); first | done | rfl | (simp only [List.length_drop, List.length_take]; rfl)) ?_; (with_reducible refine (words_outside.calls _ _ l0 a1 true _ ?side1 ?side2 A3.out).mono ?_); (case side1 => repeat (first | exact HR0.out | (with_reducible refine Kd.C_alloc ?_ _) | (with_reducible refine Kd.C_drewN ?_ _) | (with_reducible refine Kd.C_drew ?_))); (case side2 => exact HC0.out); rintro e w' ⟨rfl, ⟨nd, rfl⟩⟩; refine ⟨_, rfl, ?_⟩))
  go_ret2
  exact ⟨by first | rfl | (simp [errW_none, errW_some] <;> rfl) | (simp [*, errW_none, errW_some] <;> rfl), by repeat (first | (with_reducible first | exact HB.out | apply below_alloc | apply pw_below_drewN | apply below_drew1) | exact HB.out)⟩
 ·replace c4 := Bool.eq_false_iff.mpr c4
  subst c4
  have H1 : ((words_All.f k l0).bind fun t128 => (words_Prev.l0 k a1 0 t128 (t128.length : Int) 0)) = some (r1, r2) := by rw [if_neg (show ¬ (false = true) by decide)] at H; exact H
  clear H
  have H := H1
  clear H1
  replace H := Option.bind_eq_some_iff.mp H
  obtain ⟨t128, A50, H⟩ := H
  replace H : (words_Prev.l0 k a1 0 t128 (t128.length : Int) 0) = some (r1, r2) := H
  have A5 := Aside0.mk A50
  clear A50
  have H' := Aside0.mk H
  clear H
  go_enter Tryd.func24, Tryd.ntmps24
  go_wp2_with (first | ((with_reducible refine gate_callee (f := 44) rfl ?_); refine goesL_ (some 11) rfl rfl Tryd.func44 (by kernel_rfl) rfl #[.slice A0 l0.length c0, .int .i64 a1] rfl (by (try simp only [List.map_toArray, List.map_cons, List.map_nil]); first | done | rfl | (simp only [List.length_drop, List.length_take]; rfl)) ?_; (with_reducible refine (words_outside.calls _ _ l0 a1 false _ ?side1 ?side2 A3.out).mono ?_); (case side1 => repeat (first | exact HR0.out | (with_reducible refine Kd.C_alloc ?_ _) | (with_reducible refine Kd.C_drewN ?_ _) | (with_reducible refine Kd.C_drew ?_))); (case side2 => exact HC0.out); rintro e w' ⟨rfl, ⟨nd, rfl⟩⟩; refine ⟨_, rfl, ?_⟩) | ((with_reducible refine gate_callee (f := 17) rfl ?_); refine goesL_ (some 13) rfl rfl Tryd.func17 (by kernel_rfl) rfl #[.slice A0 l0.length c0] rfl (by (try simp only [List.map_toArray, List.map_cons, List.map_nil]); first | done | rfl | (simp only [List.length_drop, List.length_take]; rfl)) ?_; (with_reducible refine (words_All.calls k _ _ l0 t128 _ ?side1 ?side2 ?side3 A5.out).mono ?_); (case side1 => repeat (first | exact HR0.out | (with_reducible refine Kd.C_alloc ?_ _) | (with_reducible refine Kd.C_drewN ?_ _) | (with_reducible refine Kd.C_drew ?_))); (case side2 => exact HC0.out); (case side3 => exact laid_below HLB.out (by repeat (first | (with_reducible first | exact HB.out | apply below_alloc | apply pw_below_drewN | apply below_drew1) | exact HB.out))); rintro e w6 ⟨v129, rfl, ho0, hb⟩; refine ⟨_, rfl, ?_⟩; have n0_ := Aside0.mk (Kd.R_lower ho0 (below_size (by repeat (first | (with_reducible first | exact HB.out | apply below_alloc | apply pw_below_drewN | apply below_drew1) | exact HB.out)))); have n1_ := Aside0.mk (below_step (by repeat (first | (with_reducible first | exact HB.out | apply below_alloc | apply pw_below_drewN | apply below_drew1) | exact HB.out)) hb); clear HB; have HO130 := n0_; have HB := n1_; clear n0_ n1_; (try clear hb); (try clear hb2); (try clear hk); (try clear hi); (try clear ho0); obtain ⟨Ao7, co7, eo7⟩ := Kd.R_slice HO130.out; subst eo7))
  go_loopg [6, 15] k (fun kq v6 v15 w' => ∃ (x6_1 : Int) (x15_1 : Int), v6 = .int .i64 x6_1 ∧ v15 = .int .i64 x15_1 ∧ Aside0 (words_Prev.l0 kq a1 x6_1 t128 (t128.length : Int) x15_1 = some (r1, r2)) ∧ Aside0 (kq ≤ k) ∧ Aside0 (Kd.R k36 36 w' w.heap.size (fun _ => True) (.slice Ao7 t128.length co7) t128) ∧ Aside0 (Below w.heap.size w w'))
  case atStart => exact ⟨(0), (0), (by first | rfl | (simp; done) | (simp [*]; done)), (by first | rfl | (simp; done) | (simp [*]; done)), H', ⟨Nat.le_refl _⟩, ⟨by (with_reducible repeat (first | apply Kd.R_alloc | apply Kd.R_drewN | apply Kd.R_drew)); exact HO130.out⟩, ⟨by repeat (first | (with_reducible first | exact HB.out | apply below_alloc | apply pw_below_drewN | apply below_drew1) | exact HB.out)⟩⟩
  case round =>
   clear H'
   try clear c1
   try clear c2
   try clear p2
   try clear c4
   obtain ⟨x6_1, x15_1, rfl, rfl, HA, HK1, HO_13, HB⟩ := hrel
   cases gk with
   | zero => exact absurd HA.out (by simp [words_Prev.l0])
   | succ k1 =>
    have H := HA.out
    clear HA
    simp only [words_Prev.l0] at H
    by_cases c8 : x15_1 < (t128.length : Int)
    ·rw [if_pos c8] at H
     have c8b0 : decide (x15_1 < (t128.length : Int)) = true := decide_eq_true c8
     clear c8
     by_cases c9 : 0 ≤ x15_1
     ·rw [if_pos c9] at H
      have c9b0 : decide (0 ≤ x15_1) = true := decide_eq_true c9
      clear c9
      by_cases c10 : x15_1 < (t128.length : Int)
      ·rw [if_pos c10] at H
       have c10b0 : decide (x15_1 < (t128.length : Int)) = true := decide_eq_true c10
       clear c10
       by_cases c11 : ((rd_T36 t128 x15_1).f0) < a1
       ·rw [if_pos c11] at H
        have c11b0 : decide (((rd_T36 t128 x15_1).f0) < a1) = true := decide_eq_true c11
        clear c11
        have H' := Aside0.mk H
        clear H
        have p131 : 0 ≤ (x15_1 : Int) := of_decide_eq_true (by first | (with_reducible assumption) | assumption)
        have q131 : x15_1 < (t128.length : Int) := of_decide_eq_true (by first | (with_reducible assumption) | assumption)
        obtain ⟨ad131, e131, hx131_0, hx131_1⟩ := at_T36 (Kd.R_reads' HO_13.out).2.2 x15_1 p131 q131
        cases e131
        replace p131 := eq_true p131
        replace q131 := eq_true q131
        go_wp2_with (first | ((with_reducible refine gate_dst (N := 8) rfl ?_); refine box_event ?hg (N := 8) ?hd (cs := #[.int .i64 0, .int .i64 0]) (t := 36) ?hr ?_; (case hd => rfl); (case hg => rfl); (case hr => first | (go_simp; done) | (go_simp; rfl)); intro gb132 hg w12 hbox hb; have n0_ := Aside0.mk (Kd.R_below (Kd.R_elderB (by (with_reducible repeat (first | apply Kd.R_alloc | apply Kd.R_drewN | apply Kd.R_drew)); exact HO_13.out) gb132 (Nat.le_of_eq hg.symm)) hb); have n1_ := Aside0.mk (below_step (by repeat (first | (with_reducible first | exact HB.out | apply below_alloc | apply pw_below_drewN | apply below_drew1) | exact HB.out)) hb); have n2_ := Aside0.mk (hbox); have n3_ := Aside0.mk ((by rw [hg]; exact (below_size (by repeat (first | (with_reducible first | exact HB.out | apply below_alloc | apply pw_below_drewN | apply below_drew1) | exact HB.out))) : w.heap.size ≤ gb132)); have n4_ := Aside0.mk ((by rw [hg]; exact (below_size (by repeat (first | (with_reducible first | exact HB.out | apply below_alloc | apply pw_below_drewN | apply below_drew1) | exact HB.out))) : w.heap.size ≤ gb132)); clear HO_13; clear HB; have HO_13 := n0_; have HB := n1_; have BK132 := n2_; have GW132 := n3_; have GE132 := n4_; clear n0_ n1_ n2_ n3_ n4_; clear hb hbox hg; have hcz13_0 : w12.cell? ⟨gb132, 0, none⟩ = some (.int .i64 0) := (blk_cell BK132.out 0).trans rfl; have hcz13_1 : w12.cell? ⟨gb132, 1, none⟩ = some (.int .i64 0) := (blk_cell BK132.out 1).trans rfl; have hfz13_0 := blk_frozen BK132.out 0; have hfz13_1 := blk_frozen BK132.out 1))
        go_roundg k1
        case measure => have := HK1.out; omega
        case rel => exact ⟨((rd_T36 t128 x15_1).f0), (wrap64 (x15_1 + 1)), (by first | rfl | (simp; done) | (simp [*]; done)), (by first | rfl | (simp; done) | (simp [*]; done)), H', ⟨by have := HK1.out; omega⟩, ⟨by (with_reducible repeat (first | apply Kd.R_alloc | apply Kd.R_drewN | apply Kd.R_drew)); exact Kd.R_mono (Kd.R_far (p := ⟨gb132, 1, none⟩) (Kd.R_far (p := ⟨gb132, 0, none⟩) (Kd.R_mono HO_13.out (fun k_ hk => (⟨hk, hk.2⟩ : _ ∧ k_ ≠ gb132))) (fun _ hk => hk.2) (.int .i64 ((rd_T36 t128 x15_1).f0))) (fun _ hk => hk.2) (.int .i64 ((rd_T36 t128 x15_1).f1))) (fun _ hk => trivial)⟩, ⟨by repeat (first | (with_reducible first | exact HB.out | apply below_alloc | apply pw_below_drewN | apply below_drew1 | refine below_set ?_ GE132.out) | exact HB.out)⟩⟩
       ·rw [if_neg c11] at H
        have c11b0 : decide (((rd_T36 t128 x15_1).f0) < a1) = false := decide_eq_false c11
        clear c11
        have H' := Aside0.mk H
        clear H
        have p131 : 0 ≤ (x15_1 : Int) := of_decide_eq_true (by first | (with_reducible assumption) | assumption)
        have q131 : x15_1 < (t128.length : Int) := of_decide_eq_true (by first | (with_reducible assumption) | assumption)
        obtain ⟨ad131, e131, hx131_0, hx131_1⟩ := at_T36 (Kd.R_reads' HO_13.out).2.2 x15_1 p131 q131
        cases e131
        replace p131 := eq_true p131
        replace q131 := eq_true q131
        go_wp2_with (first | ((with_reducible refine gate_dst (N := 8) rfl ?_); refine box_event ?hg (N := 8) ?hd (cs := #[.int .i64 0, .int .i64 0]) (t := 36) ?hr ?_; (case hd => rfl); (case hg => rfl); (case hr => first | (go_simp; done) | (go_simp; rfl)); intro gb132 hg w14 hbox hb; have n0_ := Aside0.mk (Kd.R_below (Kd.R_elderB (by (with_reducible repeat (first | apply Kd.R_alloc | apply Kd.R_drewN | apply Kd.R_drew)); exact HO_13.out) gb132 (Nat.le_of_eq hg.symm)) hb); have n1_ := Aside0.mk (below_step (by repeat (first | (with_reducible first | exact HB.out | apply below_alloc | apply pw_below_drewN | apply below_drew1) | exact HB.out)) hb); have n2_ := Aside0.mk (hbox); have n3_ := Aside0.mk ((by rw [hg]; exact (below_size (by repeat (first | (with_reducible first | exact HB.out | apply below_alloc | apply pw_below_drewN | apply below_drew1) | exact HB.out))) : w.heap.size ≤ gb132)); have n4_ := Aside0.mk ((by rw [hg]; exact (below_size (by repeat (first | (with_reducible first | exact HB.out | apply below_alloc | apply pw_below_drewN | apply below_drew1) | exact HB.out))) : w.heap.size ≤ gb132)); clear HO_13; clear HB; have HO_13 := n0_; have HB := n1_; have BK132 := n2_; have GW132 := n3_; have GE132 := n4_; clear n0_ n1_ n2_ n3_ n4_; clear hb hbox hg; have hcz15_0 : w14.cell? ⟨gb132, 0, none⟩ = some (.int .i64 0) := (blk_cell BK132.out 0).trans rfl; have hcz15_1 : w14.cell? ⟨gb132, 1, none⟩ = some (.int .i64 0) := (blk_cell BK132.out 1).trans rfl; have hfz15_0 := blk_frozen BK132.out 0; have hfz15_1 := blk_frozen BK132.out 1))
        go_roundg k1
        case measure => have := HK1.out; omega
        case rel => exact ⟨(x6_1), (wrap64 (x15_1 + 1)), (by first | rfl | (simp; done) | (simp [*]; done)), (by first | rfl | (simp; done) | (simp [*]; done)), H', ⟨by have := HK1.out; omega⟩, ⟨by (with_reducible repeat (first | apply Kd.R_alloc | apply Kd.R_drewN | apply Kd.R_drew)); exact Kd.R_mono (Kd.R_far (p := ⟨gb132, 1, none⟩) (Kd.R_far (p := ⟨gb132, 0, none⟩) (Kd.R_mono HO_13.out (fun k_ hk => (⟨hk, hk.2⟩ : _ ∧ k_ ≠ gb132))) (fun _ hk => hk.2) (.int .i64 ((rd_T36 t128 x15_1).f0))) (fun _ hk => hk.2) (.int .i64 ((rd_T36 t128 x15_1).f1))) (fun _ hk => trivial)⟩, ⟨by repeat (first | (with_reducible first | exact HB.out | apply below_alloc | apply pw_below_drewN | apply below_drew1 | refine below_set ?_ GE132.out) | exact HB.out)⟩⟩
      ·rw [if_neg c10] at H
       exact absurd H (by simp)
     ·rw [if_neg c9] at H
      exact absurd H (by simp)
    ·rw [if_neg c8] at H
     have c8b0 : decide (x15_1 < (t128.length : Int)) = false := decide_eq_false c8
     clear c8
     simp only [Option.some.injEq, Prod.mk.injEq] at H
     obtain ⟨rfl, rfl⟩ := H
     go_wp2
     go_ret2
     exact ⟨by first | rfl | (simp [errW_none, errW_some] <;> rfl) | (simp [*, errW_none, errW_some] <;> rfl), by repeat (first | (with_reducible first | exact HB.out | apply below_alloc | apply pw_below_drewN | apply below_drew1) | exact HB.out)⟩

end Go.Proofs.YtijbkiajhicooaaDoor.PW

namespace Go.Proofs.YtijbkiajhicooaaDoor.PW
open Go.RowKit Go.Proofs.YtijbkiajhicooaaDoorW.PrintWords Go.Proofs.YtijbkiajhicooaaDoorW.PrintLast Go.Proofs.YtijbkiajhicooaaDoorW.PrintMore
attribute [local go_sem] max2_int min2_int max_two min_two max_three min_three max_four min_four   -- for this text's walks alone
set_option linter.unusedVariables false
set_option linter.unusedSimpArgs false

def step_at.f (l0 : List Int) (a1 : Int) : Option (Int × Int × Bool) := if 0 ≤ a1 then (if a1 ≤ (mn (wrap64 (a1 + 4)) (l0.length : Int)) then (if (mn (wrap64 (a1 + 4)) (l0.length : Int)) ≤ (l0.length : Int) then ((step_first.f (strOfNums ((l0.take ((mn (wrap64 (a1 + 4)) (l0.length : Int)) : Int).toNat).drop (a1 : Int).toNat))).bind fun bt136 => (some (bt136.1, bt136.2.1, bt136.2.2))) else (none)) else (none)) else (none)
set_option maxHeartbeats 8000000 in
set_option maxRecDepth 100000 in
theorem step_at.calls (A0 : Option Addr) (c0 : Nat) (l0 : List Int) (a1 : Int) (r1 : Int) (r2 : Int) (r3 : Bool) (w : World) (hr0 : Kd.C (Kd.int .u8) w A0 l0.length l0) (hc0 : l0.length ≤ c0) (hL : LaidBad w) (h : step_at.f l0 a1 = some (r1, r2, r3)) :
  Calls Tryd.prog 83 #[.slice A0 l0.length c0, .int .i64 a1] w fun e w' => e = .returned (.agg #[.int .i32 r1, .int .i64 r2, .bool r3]) ∧ Below w.heap.size w w' := by
 have HR := Aside0.mk hr0
 unfold step_at.f at h
 by_cases g0 : 0 ≤ a1
 ·rw [if_pos g0] at h
  obtain ⟨m, hm⟩ : ∃ m : Int, mn (wrap64 (a1 + 4)) (l0.length : Int) = m := ⟨_, rfl⟩
  rw [hm] at h
  by_cases g1 : a1 ≤ m
  ·rw [if_pos g1] at h
   by_cases g2 : m ≤ (l0.length : Int)
   ·rw [if_pos g2] at h
    have hf : step_first.f (strOfNums ((l0.take m.toNat).drop a1.toNat)) = some (r1, r2, r3) := h
    obtain ⟨i0, hi0, _, hsz0, _⟩ := info_parts info5
    obtain ⟨A9, hcut, hA9, hC9⟩ := print_mid_of (P := Tryd.prog) (Value.int .u8) 0 29 5 .i64 .i64 Tryd.underlying29 hi0 hsz0 A0 c0 l0 a1 m g0 g1 g2 hc0
    have hr9 : Kd.C (Kd.int .u8) w A9 ((l0.take m.toNat).drop a1.toNat).length ((l0.take m.toNat).drop a1.toNat) := Kd.C_of_reads (h1 := fun _ => rfl) (hA9 _ (Kd.reads_of_C HR.out))
    have hcv := Kd.C_string (P := Tryd.prog) (A := A9) (c := (c0 - a1.toNat)) Tryd.underlying29 Tryd.underlying5 Tryd.underlying9 (Kd.C_alloc hr9 (.cells #[.int .i32 0, .int .i64 0, .bool false] 23))
    have hm_ : (if (l0.length : Int) < (wrap64 (a1 + 4)) then (l0.length : Int) else (wrap64 (a1 + 4))) = m := hm
    have hu := Tryd.underlying23
    have hb : Below w.heap.size w (w.alloc (.cells #[.int .i32 0, .int .i64 0, .bool false] 23)) := below_alloc (Below.refl _ _) _
    have hL1 := laid_below hL hb
    have HG := Aside0.mk (blk_new w (.cells #[.int .i32 0, .int .i64 0, .bool false] 23))
    have HB := Aside0.mk hb
    have HF := Aside0.mk hf
    clear hA9 hC9 hr9 h hf hL hb hi0 hsz0 hr0 hm
    generalize strOfNums ((l0.take m.toNat).drop a1.toNat) = s at *
    generalize ((l0.take m.toNat).drop a1.toNat).length = n9 at *
    replace g0 := eq_true g0
    replace g1 := eq_true g1
    replace g2 := eq_true g2
    go_enter Tryd.func83, Tryd.ntmps83
    go_wp2_with fail
    refine (step_first.calls s r1 r2 r3 _ hL1 HF.out).mono ?_
    rintro e w2 ⟨rfl, hb2⟩
    have hg2 := blk_below HG.out hb2
    have c0 := blk_cell hg2 0
    have c1 := blk_cell hg2 1
    have c2 := blk_cell hg2 2
    have f0 := blk_frozen hg2 0
    have f1 := blk_frozen hg2 1
    have f2 := blk_frozen hg2 2
    have HG2 := Aside0.mk hg2
    have HB2 := Aside0.mk (below_step HB.out hb2)
    clear hg2 hb2
    go_wp2
    refine bodyPost_ret (results_cell_row rfl _ _ w.heap.size 23 #[.int .i32 r1, .int .i64 r2, .bool r3] (0, 0) _ rfl (blk_put3 _ _ _ HG2.out) Tryd.underlying23 rfl (by kernel_rfl)) rfl ?_
    exact ⟨rfl, below_put3 HB2.out (Nat.le_refl _) _ _ _⟩
   ·rw [if_neg g2] at h
    cases h
  ·rw [if_neg g1] at h
   cases h
 ·rw [if_neg g0] at h
  cases h

end Go.Proofs.YtijbkiajhicooaaDoor.PW

namespace Go.Proofs.YtijbkiajhicooaaDoor.PW
open Go.RowKit Go.Proofs.YtijbkiajhicooaaDoorW.PrintWords Go.Proofs.YtijbkiajhicooaaDoorW.PrintLast Go.Proofs.YtijbkiajhicooaaDoorW.PrintMore
attribute [local go_sem] max2_int min2_int max_two min_two max_three min_three max_four min_four   -- for this text's walks alone
set_option linter.unusedVariables false
set_option linter.unusedSimpArgs false

mutual
def step_inside.l0 : Nat → List Int → Int → Int → Option (Int)
 | 0, _, _, _ => none
 | k + 1, x0, x1, x5 => if x5 ≤ 3 then (step_inside.j1 k x0 x1 x5 (decide (x5 ≤ x1))) else (step_inside.j1 k x0 x1 x5 false)
def step_inside.j1 : Nat → List Int → Int → Int → Bool → Option (Int)
 | 0, _, _, _, _ => none
 | k + 1, x0, x1, x5, x12 => if x12 = true then ((step_at.f x0 (wrap64 (x1 - x5))).bind fun bt139 => (if bt139.2.1 > x5 then (some x5) else (step_inside.l0 k x0 x1 (wrap64 (x5 + 1))))) else (some 0)
end
def step_inside.f (k : Nat) (l0 : List Int) (a1 : Int) : Option (Int) := step_inside.l0 k l0 a1 1
set_option maxHeartbeats 8000000 in
set_option maxRecDepth 100000 in
theorem step_inside.calls (k : Nat) (A0 : Option Addr) (c0 : Nat) (l0 : List Int) (a1 : Int) (r : Int) (w : World) (hr0 : Kd.C (Kd.int .u8) w A0 l0.length l0) (hc0 : l0.length ≤ c0) (hL : LaidBad w) (h : step_inside.f k l0 a1 = some r) :
  Calls Tryd.prog 82 #[.slice A0 l0.length c0, .int .i64 a1] w fun e w' => e = .returned (.int .i64 r) ∧ Below w.heap.size w w' := by
 have hfd23_1 : ∀ (x0_ : Int) (x1_ : Int) (x2_ : Bool) (w : World), (Instr.field 23 (.agg #[.int .i32 x0_, .int .i64 x1_, .bool x2_]) 1).run Tryd.prog w = .ok (.int .i64 x1_) w := by intros; kernel_rfl
 have HR0 := Aside0.mk hr0
 have HC0 := Aside0.mk hc0
 clear hr0 hc0
 have HB := Aside0.mk (Below.refl w.heap.size w)
 have HLB := Aside0.mk hL
 clear hL
 have H : (step_inside.l0 k l0 a1 1) = some r := h
 clear h
 have H' := Aside0.mk H
 clear H
 go_enter Tryd.func82, Tryd.ntmps82
 go_wp2
 go_loopg [5] k (fun kq v5 w' => ∃ (x5_1 : Int), v5 = .int .i64 x5_1 ∧ Aside0 (step_inside.l0 kq l0 a1 x5_1 = some r) ∧ Aside0 (kq ≤ k) ∧ Aside0 (Below w.heap.size w w'))
 case atStart => exact ⟨(1), (by first | rfl | (simp; done) | (simp [*]; done)), H', ⟨Nat.le_refl _⟩, ⟨by repeat (first | (with_reducible first | exact HB.out | apply below_alloc | apply pw_below_drewN | apply below_drew1) | exact HB.out)⟩⟩
 case round =>
  clear H'
  try clear p2
  obtain ⟨x5_1, rfl, HA, HK1, HB⟩ := hrel
  cases gk with
  | zero => exact absurd HA.out (by simp [step_inside.l0])
  | succ k1 =>
   have H := HA.out
   clear HA
   simp only [step_inside.l0] at H
   have HC3 := Aside0.mk H
   clear H
   go_upto_region 2 with (fail)
   go_cut [12] (fun v12 wc => ∃ (kq : Nat) (x12_2 : Bool), v12 = .bool x12_2 ∧ Aside0 (step_inside.j1 kq l0 a1 x5_1 x12_2 = some r) ∧ Aside0 (kq ≤ k1) ∧ Aside0 (Below w.heap.size w wc))
   case first =>
    have H := HC3.out
    clear HC3
    by_cases c4 : x5_1 ≤ 3
    ·rw [if_pos c4] at H
     have c4b0 : decide (x5_1 ≤ 3) = true := decide_eq_true c4
     clear c4
     (first | rw [c4b0] | (simp only [i64_w, i32_w]; rw [c4b0]) | skip)
     have H' := Aside0.mk H
     clear H
     go_wp2
     go_meet
     case rel => exact ⟨_, (decide (x5_1 ≤ a1)), (by first | rfl | (simp; done) | (simp [*]; done)), H', ⟨by have := HK1.out; first | omega | exact Nat.le_refl _⟩, ⟨by repeat (first | (with_reducible first | exact HB.out | apply below_alloc | apply pw_below_drewN | apply below_drew1) | exact HB.out)⟩⟩
    ·rw [if_neg c4] at H
     have c4b0 : decide (x5_1 ≤ 3) = false := decide_eq_false c4
     clear c4
     (first | rw [c4b0] | (simp only [i64_w, i32_w]; rw [c4b0]) | skip)
     have H' := Aside0.mk H
     clear H
     go_wp2
     go_meet
     case rel => exact ⟨_, (false), (by first | rfl | (simp; done) | (simp [*]; done)), H', ⟨by have := HK1.out; first | omega | exact Nat.le_refl _⟩, ⟨by repeat (first | (with_reducible first | exact HB.out | apply below_alloc | apply pw_below_drewN | apply below_drew1) | exact HB.out)⟩⟩
   case rest =>
    clear HC3
    try clear p2
    try clear c4
    try clear c4b0
    try clear p2
    obtain ⟨kq, x12_2, rfl, HA, HJ2, HB⟩ := hcut
    cases kq with
    | zero => exact absurd HA.out (by simp [step_inside.j1])
    | succ kj2 =>
     have H := HA.out
     clear HA
     simp only [step_inside.j1] at H
     by_cases c5 : x12_2 = true
     ·subst c5
      have H1 : ((step_at.f l0 (wrap64 (a1 - x5_1))).bind fun bt139 => (if bt139.2.1 > x5_1 then (some x5_1) else (step_inside.l0 kj2 l0 a1 (wrap64 (x5_1 + 1))))) = some r := by rw [if_pos rfl] at H; exact H
      clear H
      have H := H1
      clear H1
      replace H := Option.bind_eq_some_iff.mp H
      obtain ⟨⟨t139, t140, t141⟩, A60, H⟩ := H
      replace H : (if t140 > x5_1 then (some x5_1) else (step_inside.l0 kj2 l0 a1 (wrap64 (x5_1 + 1)))) = some r := H
      have A6 := Aside0.mk A60
      clear A60
      by_cases c7 : t140 > x5_1
      ·rw [if_pos c7] at H
       have c7b0 : decide (x5_1 < t140) = true := decide_eq_true c7
       clear c7
       obtain rfl := Option.some.inj H
       go_wp2_with (first | ((with_reducible refine gate_callee (f := 83) rfl ?_); refine goesL_ (some 19) rfl rfl Tryd.func83 (by kernel_rfl) rfl #[.slice A0 l0.length c0, .int .i64 (wrap64 (a1 - x5_1))] rfl (by (try simp only [List.map_toArray, List.map_cons, List.map_nil]); first | done | rfl | (simp only [List.length_drop, List.length_take]; rfl)) ?_; (with_reducible refine (step_at.calls _ _ l0 (wrap64 (a1 - x5_1)) t139 t140 t141 _ ?side1 ?side2 ?side3 A6.out).mono ?_); (case side1 => repeat (first | exact (Kd.C_below HR0.out HB.out) | (with_reducible refine Kd.C_alloc ?_ _) | (with_reducible refine Kd.C_drewN ?_ _) | (with_reducible refine Kd.C_drew ?_))); (case side2 => exact HC0.out); (case side3 => exact laid_below HLB.out (by repeat (first | (with_reducible first | exact HB.out | apply below_alloc | apply pw_below_drewN | apply below_drew1) | exact HB.out))); rintro e w8 ⟨rfl, hb⟩; refine ⟨_, rfl, ?_⟩; have n0_ := Aside0.mk (below_step (by repeat (first | (with_reducible first | exact HB.out | apply below_alloc | apply pw_below_drewN | apply below_drew1) | exact HB.out)) hb); clear HB; have HB := n0_; clear n0_; (try clear hb); (try clear hb2); (try clear hk); (try clear hi)))
       go_ret
       exact ⟨by first | rfl | (simp [errW_none, errW_some] <;> rfl) | (simp [*, errW_none, errW_some] <;> rfl), by repeat (first | (with_reducible first | exact HB.out | apply below_alloc | apply pw_below_drewN | apply below_drew1) | exact HB.out)⟩
      ·rw [if_neg c7] at H
       have c7b0 : decide (x5_1 < t140) = false := decide_eq_false c7
       clear c7
       have H' := Aside0.mk H
       clear H
       go_wp2_with (first | ((with_reducible refine gate_callee (f := 83) rfl ?_); refine goesL_ (some 19) rfl rfl Tryd.func83 (by kernel_rfl) rfl #[.slice A0 l0.length c0, .int .i64 (wrap64 (a1 - x5_1))] rfl (by (try simp only [List.map_toArray, List.map_cons, List.map_nil]); first | done | rfl | (simp only [List.length_drop, List.length_take]; rfl)) ?_; (with_reducible refine (step_at.calls _ _ l0 (wrap64 (a1 - x5_1)) t139 t140 t141 _ ?side1 ?side2 ?side3 A6.out).mono ?_); (case side1 => repeat (first | exact (Kd.C_below HR0.out HB.out) | (with_reducible refine Kd.C_alloc ?_ _) | (with_reducible refine Kd.C_drewN ?_ _) | (with_reducible refine Kd.C_drew ?_))); (case side2 => exact HC0.out); (case side3 => exact laid_below HLB.out (by repeat (first | (with_reducible first | exact HB.out | apply below_alloc | apply pw_below_drewN | apply below_drew1) | exact HB.out))); rintro e w9 ⟨rfl, hb⟩; refine ⟨_, rfl, ?_⟩; have n0_ := Aside0.mk (below_step (by repeat (first | (with_reducible first | exact HB.out | apply below_alloc | apply pw_below_drewN | apply below_drew1) | exact HB.out)) hb); clear HB; have HB := n0_; clear n0_; (try clear hb); (try clear hb2); (try clear hk); (try clear hi)))
       go_roundg kj2
       case measure => have := HK1.out; have := HJ2.out; omega
       case rel => exact ⟨(wrap64 (x5_1 + 1)), (by first | rfl | (simp; done) | (simp [*]; done)), H', ⟨by have := HK1.out; have := HJ2.out; omega⟩, ⟨by repeat (first | (with_reducible first | exact HB.out | apply below_alloc | apply pw_below_drewN | apply below_drew1) | exact HB.out)⟩⟩
     ·replace c5 := Bool.eq_false_iff.mpr c5
      subst c5
      have H1 : (some 0) = some r := by rw [if_neg (show ¬ (false = true) by decide)] at H; exact H
      clear H
      have H := H1
      clear H1
      obtain rfl := Option.some.inj H
      go_wp2
      go_ret
      exact ⟨by first | rfl | (simp [errW_none, errW_some] <;> rfl) | (simp [*, errW_none, errW_some] <;> rfl), by repeat (first | (with_reducible first | exact HB.out | apply below_alloc | apply pw_below_drewN | apply below_drew1) | exact HB.out)⟩

end Go.Proofs.YtijbkiajhicooaaDoor.PW

namespace Go.Proofs.YtijbkiajhicooaaDoor.PW
open Go.RowKit Go.Proofs.YtijbkiajhicooaaDoorW.PrintWords Go.Proofs.YtijbkiajhicooaaDoorW.PrintLast Go.Proofs.YtijbkiajhicooaaDoorW.PrintMore
attribute [local go_sem] max2_int min2_int max_two min_two max_three min_three max_four min_four   -- for this text's walks alone
set_option linter.unusedVariables false
set_option linter.unusedSimpArgs false

def step_Floor.f (k : Nat) (l0 : List Int) (a1 : Int) : Option (Int × Int) := if a1 < 0 then (some (0, 2)) else (if a1 > (l0.length : Int) then (some (0, 2)) else ((step_inside.f k l0 a1).bind fun t142 => (some (wrap64 (a1 - t142), 0))))
set_option maxHeartbeats 8000000 in
set_option maxRecDepth 100000 in
theorem step_Floor.calls (k : Nat) (A0 : Option Addr) (c0 : Nat) (l0 : List Int) (a1 : Int) (r1 : Int) (r2 : Int) (w : World) (hr0 : Kd.C (Kd.int .u8) w A0 l0.length l0) (hc0 : l0.length ≤ c0) (hL : LaidBad w) (h : step_Floor.f k l0 a1 = some (r1, r2)) :
  Calls Tryd.prog 67 #[.slice A0 l0.length c0, .int .i64 a1] w fun e w' => e = .returned (.tuple #[.int .i64 r1, .int .i64 r2]) ∧ Below w.heap.size w w' := by
 have HR0 := Aside0.mk hr0
 have HC0 := Aside0.mk hc0
 clear hr0 hc0
 have HB := Aside0.mk (Below.refl w.heap.size w)
 have HLB := Aside0.mk hL
 clear hL
 have H : (if a1 < 0 then (some (0, 2)) else (if a1 > (l0.length : Int) then (some (0, 2)) else ((step_inside.f k l0 a1).bind fun t142 => (some (wrap64 (a1 - t142), 0))))) = some (r1, r2) := h
 clear h
 by_cases c3 : a1 < 0
 ·rw [if_pos c3] at H
  have c3b0 : decide (a1 < 0) = true := decide_eq_true c3
  clear c3
  simp only [Option.some.injEq, Prod.mk.injEq] at H
  obtain ⟨rfl, rfl⟩ := H
  go_enter Tryd.func67, Tryd.ntmps67
  go_wp2
  go_ret2
  exact ⟨by first | rfl | (simp [errW_none, errW_some] <;> rfl) | (simp [*, errW_none, errW_some] <;> rfl), by repeat (first | (with_reducible first | exact HB.out | apply below_alloc | apply pw_below_drewN | apply below_drew1) | exact HB.out)⟩
 ·rw [if_neg c3] at H
  have c3b0 : decide (a1 < 0) = false := decide_eq_false c3
  clear c3
  by_cases c4 : a1 > (l0.length : Int)
  ·rw [if_pos c4] at H
   have c4b0 : decide ((l0.length : Int) < a1) = true := decide_eq_true c4
   clear c4
   simp only [Option.some.injEq, Prod.mk.injEq] at H
   obtain ⟨rfl, rfl⟩ := H
   go_enter Tryd.func67, Tryd.ntmps67
   go_wp2
   go_ret2
   exact ⟨by first | rfl | (simp [errW_none, errW_some] <;> rfl) | (simp [*, errW_none, errW_some] <;> rfl), by repeat (first | (with_reducible first | exact HB.out | apply below_alloc | apply pw_below_drewN | apply below_drew1) | exact HB.out)⟩
  ·rw [if_neg c4] at H
   have c4b0 : decide ((l0.length : Int) < a1) = false := decide_eq_false c4
   clear c4
   replace H := Option.bind_eq_some_iff.mp H
   obtain ⟨t142, A50, H⟩ := H
   replace H : (some (wrap64 (a1 - t142), 0)) = some (r1, r2) := H
   have A5 := Aside0.mk A50
   clear A50
   simp only [Option.some.injEq, Prod.mk.injEq] at H
   obtain ⟨rfl, rfl⟩ := H
   go_enter Tryd.func67, Tryd.ntmps67
   go_wp2_with (first | ((with_reducible refine gate_callee (f := 82) rfl ?_); refine goesL_ (some 17) rfl rfl Tryd.func82 (by kernel_rfl) rfl #[.slice A0 l0.length c0, .int .i64 a1] rfl (by (try simp only [List.map_toArray, List.map_cons, List.map_nil]); first | done | rfl | (simp only [List.length_drop, List.length_take]; rfl)) ?_; (with_reducible refine (step_inside.calls k _ _ l0 a1 t142 _ ?side1 ?side2 ?side3 A5.out).mono ?_); (case side1 => repeat (first | exact HR0.out | (with_reducible refine Kd.C_alloc ?_ _) | (with_reducible refine Kd.C_drewN ?_ _) | (with_reducible refine Kd.C_drew ?_))); (case side2 => exact HC0.out); (case side3 => exact laid_below HLB.out (by repeat (first | (with_reducible first | exact HB.out | apply below_alloc | apply pw_below_drewN | apply below_drew1) | exact HB.out))); rintro e w6 ⟨rfl, hb⟩; refine ⟨_, rfl, ?_⟩; have n0_ := Aside0.mk (below_step (by repeat (first | (with_reducible first | exact HB.out | apply below_alloc | apply pw_below_drewN | apply below_drew1) | exact HB.out)) hb); clear HB; have HB := n0_; clear n0_; (try clear hb); (try clear hb2); (try clear hk); (try clear hi)))
   go_ret2
   exact ⟨by first | rfl | (simp [errW_none, errW_some] <;> rfl) | (simp [*, errW_none, errW_some] <;> rfl), by repeat (first | (with_reducible first | exact HB.out | apply below_alloc | apply pw_below_drewN | apply below_drew1) | exact HB.out)⟩

end Go.Proofs.YtijbkiajhicooaaDoor.PW

namespace Go.Proofs.YtijbkiajhicooaaDoor.PW
open Go.RowKit Go.Proofs.YtijbkiajhicooaaDoorW.PrintWords Go.Proofs.YtijbkiajhicooaaDoorW.PrintLast Go.Proofs.YtijbkiajhicooaaDoorW.PrintMore
attribute [local go_sem] max2_int min2_int max_two min_two max_three min_three max_four min_four   -- for this text's walks alone
set_option linter.unusedVariables false
set_option linter.unusedSimpArgs false

def lines_holds.l0 : Nat → List (S127) → Int → Int → Int → Int → Option (Int)
 | 0, _, _, _, _, _ => none
 | k + 1, x0, x1, x5, x8, x9 => if x9 < x8 then (if 0 ≤ x9 then (if x9 < (x0.length : Int) then (if ((rd_T127 x0 x9).f0) > x1 then (some x5) else (lines_holds.l0 k x0 x1 x9 x8 (wrap64 (x9 + 1)))) else (none)) else (none)) else (some x5)
def lines_holds.f (k : Nat) (l0 : List (S127)) (a1 : Int) : Option (Int) := lines_holds.l0 k l0 a1 0 (l0.length : Int) 0
set_option maxHeartbeats 8000000 in
set_option maxRecDepth 100000 in
theorem lines_holds.calls (k : Nat) (A0 : Option Addr) (c0 : Nat) (l0 : List (S127)) (a1 : Int) (r : Int) (w : World) (hr0 : Kd.C k127 w A0 l0.length l0) (hc0 : l0.length ≤ c0) (h : lines_holds.f k l0 a1 = some r) :
  Calls Tryd.prog 70 #[.slice A0 l0.length c0, .int .i64 a1] w fun e w' => e = .returned (.int .i64 r) ∧ Drawn0 w w' := by
 have HR0 := Aside0.mk hr0
 have HC0 := Aside0.mk hc0
 clear hr0 hc0
 have H : (lines_holds.l0 k l0 a1 0 (l0.length : Int) 0) = some r := h
 clear h
 have H' := Aside0.mk H
 clear H
 go_enter Tryd.func70, Tryd.ntmps70
 go_wp2
 go_loopg [5, 9] k (fun kq v5 v9 w' => ∃ (x5_1 : Int) (x9_1 : Int), v5 = .int .i64 x5_1 ∧ v9 = .int .i64 x9_1 ∧ Aside0 (lines_holds.l0 kq l0 a1 x5_1 (l0.length : Int) x9_1 = some r) ∧ Aside0 (kq ≤ k) ∧ Drawn0 w w')
 case atStart => exact ⟨(0), (0), (by first | rfl | (simp; done) | (simp [*]; done)), (by first | rfl | (simp; done) | (simp [*]; done)), H', ⟨Nat.le_refl _⟩, by repeat (first | exact Drawn0.refl _ | apply Drawn0.step)⟩
 case round =>
  clear H'
  try clear p2
  obtain ⟨x5_1, x9_1, rfl, rfl, HA, HK1, ⟨m1, rfl⟩⟩ := hrel
  cases gk with
  | zero => exact absurd HA.out (by simp [lines_holds.l0])
  | succ k1 =>
   have H := HA.out
   clear HA
   simp only [lines_holds.l0] at H
   by_cases c3 : x9_1 < (l0.length : Int)
   ·rw [if_pos c3] at H
    have c3b0 : decide (x9_1 < (l0.length : Int)) = true := decide_eq_true c3
    clear c3
    by_cases c4 : 0 ≤ x9_1
    ·rw [if_pos c4] at H
     have c4b0 : decide (0 ≤ x9_1) = true := decide_eq_true c4
     clear c4
     by_cases c5 : x9_1 < (l0.length : Int)
     ·rw [if_pos c5] at H
      have c5b0 : decide (x9_1 < (l0.length : Int)) = true := decide_eq_true c5
      clear c5
      by_cases c6 : ((rd_T127 l0 x9_1).f0) > a1
      ·rw [if_pos c6] at H
       have c6b0 : decide (a1 < ((rd_T127 l0 x9_1).f0)) = true := decide_eq_true c6
       clear c6
       obtain rfl := Option.some.inj H
       have p143 : 0 ≤ (x9_1 : Int) := of_decide_eq_true (by first | (with_reducible assumption) | assumption)
       have q143 : x9_1 < (l0.length : Int) := of_decide_eq_true (by first | (with_reducible assumption) | assumption)
       obtain ⟨ad143, e143, hx143_0, hx143_1, hx143_2, hx143_3⟩ := at_T127 HR0.out x9_1 p143 q143
       cases e143
       replace p143 := eq_true p143
       replace q143 := eq_true q143
       go_wp2
       go_ret
       exact ⟨by first | rfl | (simp; done) | (simp [*]; done), by repeat (first | exact Drawn0.refl _ | apply Drawn0.step)⟩
      ·rw [if_neg c6] at H
       have c6b0 : decide (a1 < ((rd_T127 l0 x9_1).f0)) = false := decide_eq_false c6
       clear c6
       have H' := Aside0.mk H
       clear H
       have p143 : 0 ≤ (x9_1 : Int) := of_decide_eq_true (by first | (with_reducible assumption) | assumption)
       have q143 : x9_1 < (l0.length : Int) := of_decide_eq_true (by first | (with_reducible assumption) | assumption)
       obtain ⟨ad143, e143, hx143_0, hx143_1, hx143_2, hx143_3⟩ := at_T127 HR0.out x9_1 p143 q143
       cases e143
       replace p143 := eq_true p143
       replace q143 := eq_true q143
       go_wp2
       go_roundg k1
       case measure => have := HK1.out; omega
       case rel => exact ⟨(x9_1), (wrap64 (x9_1 + 1)), (by first | rfl | (simp; done) | (simp [*]; done)), (by first | rfl | (simp; done) | (simp [*]; done)), H', ⟨by have := HK1.out; omega⟩, by repeat (first | exact Drawn0.refl _ | apply Drawn0.step)⟩
     ·rw [if_neg c5] at H
      exact absurd H (by simp)
    ·rw [if_neg c4] at H
     exact absurd H (by simp)
   ·rw [if_neg c3] at H
    have c3b0 : decide (x9_1 < (l0.length : Int)) = false := decide_eq_false c3
    clear c3
    obtain rfl := Option.some.inj H
    go_wp2
    go_ret
    exact ⟨by first | rfl | (simp; done) | (simp [*]; done), by repeat (first | exact Drawn0.refl _ | apply Drawn0.step)⟩

end Go.Proofs.YtijbkiajhicooaaDoor.PW

namespace Go.Proofs.YtijbkiajhicooaaDoor.PW
open Go.RowKit Go.Proofs.YtijbkiajhicooaaDoorW.PrintWords Go.Proofs.YtijbkiajhicooaaDoorW.PrintLast Go.Proofs.YtijbkiajhicooaaDoorW.PrintMore
attribute [local go_sem] max2_int min2_int max_two min_two max_three min_three max_four min_four   -- for this text's walks alone
set_option linter.unusedVariables false
set_option linter.unusedSimpArgs false

def rule_ruler.f (a0 : Int) : Option (Bool) := if a0 ≥ 1 then (some (decide (a0 ≤ 3))) else (some false)
set_option maxHeartbeats 8000000 in
set_option maxRecDepth 100000 in
theorem rule_ruler.calls (a0 : Int) (r : Bool) (w : World) (h : rule_ruler.f a0 = some r) :
  Calls Tryd.prog 90 #[.int .i64 a0] w fun e w' => e = .returned (.bool r) ∧ Drawn0 w w' := by
 have H : (if a0 ≥ 1 then (some (decide (a0 ≤ 3))) else (some false)) = some r := h
 clear h
 by_cases c2 : a0 ≥ 1
 ·rw [if_pos c2] at H
  have c2b0 : decide (1 ≤ a0) = true := decide_eq_true c2
  clear c2
  obtain rfl := Option.some.inj H
  go_enter Tryd.func90, Tryd.ntmps90
  go_wp2
  go_ret
  exact ⟨by first | rfl | (simp; done) | (simp [*]; done), by repeat (first | exact Drawn0.refl _ | apply Drawn0.step)⟩
 ·rw [if_neg c2] at H
  have c2b0 : decide (1 ≤ a0) = false := decide_eq_false c2
  clear c2
  obtain rfl := Option.some.inj H
  go_enter Tryd.func90, Tryd.ntmps90
  go_wp2
  go_ret
  exact ⟨by first | rfl | (simp; done) | (simp [*]; done), by repeat (first | exact Drawn0.refl _ | apply Drawn0.step)⟩

end Go.Proofs.YtijbkiajhicooaaDoor.PW

namespace Go.Proofs.YtijbkiajhicooaaDoor.PW
open Go.RowKit Go.Proofs.YtijbkiajhicooaaDoorW.PrintWords Go.Proofs.YtijbkiajhicooaaDoorW.PrintLast Go.Proofs.YtijbkiajhicooaaDoorW.PrintMore
attribute [local go_sem] max2_int min2_int max_two min_two max_three min_three max_four min_four   -- for this text's walks alone
set_option linter.unusedVariables false
set_option linter.unusedSimpArgs false

def utf8_ValidRune.j0 : Nat → Int → Bool → Option (Bool)
 | 0, _, _ => none
 | k + 1, x0, x3 => if x3 = true then (some true) else (if 57343 < x0 then (if x0 ≤ 1114111 then (some true) else (some false)) else (some false))
def utf8_ValidRune.f (k : Nat) (a0 : Int) : Option (Bool) := if 0 ≤ a0 then (utf8_ValidRune.j0 k a0 (decide (a0 < 55296))) else (utf8_ValidRune.j0 k a0 false)
set_option maxHeartbeats 8000000 in
set_option maxRecDepth 100000 in
theorem utf8_ValidRune.calls (k : Nat) (a0 : Int) (r : Bool) (w : World) (h : utf8_ValidRune.f k a0 = some r) :
  Calls Tryd.prog 119 #[.int .i32 a0] w fun e w' => e = .returned (.bool r) ∧ Drawn0 w w' := by
 have H : (if 0 ≤ a0 then (utf8_ValidRune.j0 k a0 (decide (a0 < 55296))) else (utf8_ValidRune.j0 k a0 false)) = some r := h
 clear h
 have HC2 := Aside0.mk H
 clear H
 go_enter Tryd.func119, Tryd.ntmps119
 go_upto_region 1 with (fail)
 go_cut [3] (fun v3 wc => ∃ (kq : Nat) (x3_1 : Bool), v3 = .bool x3_1 ∧ Aside0 (utf8_ValidRune.j0 kq a0 x3_1 = some r) ∧ Aside0 (kq ≤ k) ∧ Drawn0 w wc)
 case first =>
  have H := HC2.out
  clear HC2
  by_cases c3 : 0 ≤ a0
  ·rw [if_pos c3] at H
   have c3b0 : decide (0 ≤ a0) = true := decide_eq_true c3
   clear c3
   (first | rw [c3b0] | (simp only [i64_w, i32_w]; rw [c3b0]) | skip)
   have H' := Aside0.mk H
   clear H
   go_wp2
   go_meet
   case rel => exact ⟨_, (decide (a0 < 55296)), (by first | rfl | (simp; done) | (simp [*]; done)), H', ⟨by first | omega | exact Nat.le_refl _⟩, by repeat (first | exact Drawn0.refl _ | apply Drawn0.step)⟩
  ·rw [if_neg c3] at H
   have c3b0 : decide (0 ≤ a0) = false := decide_eq_false c3
   clear c3
   (first | rw [c3b0] | (simp only [i64_w, i32_w]; rw [c3b0]) | skip)
   have H' := Aside0.mk H
   clear H
   go_wp2
   go_meet
   case rel => exact ⟨_, (false), (by first | rfl | (simp; done) | (simp [*]; done)), H', ⟨by first | omega | exact Nat.le_refl _⟩, by repeat (first | exact Drawn0.refl _ | apply Drawn0.step)⟩
 case rest =>
  clear HC2
  try clear c1
  try clear p2
  try clear c3
  try clear c3b0
  obtain ⟨kq, x3_1, rfl, HA, HJ1, ⟨mc1, rfl⟩⟩ := hcut
  cases kq with
  | zero => exact absurd HA.out (by simp [utf8_ValidRune.j0])
  | succ kj1 =>
   have H := HA.out
   clear HA
   simp only [utf8_ValidRune.j0] at H
   by_cases c4 : x3_1 = true
   ·subst c4
    have H1 : (some true) = some r := by rw [if_pos rfl] at H; exact H
    clear H
    have H := H1
    clear H1
    obtain rfl := Option.some.inj H
    go_wp2
    go_ret
    exact ⟨by first | rfl | (simp; done) | (simp [*]; done), by repeat (first | exact Drawn0.refl _ | apply Drawn0.step)⟩
   ·replace c4 := Bool.eq_false_iff.mpr c4
    subst c4
    have H1 : (if 57343 < a0 then (if a0 ≤ 1114111 then (some true) else (some false)) else (some false)) = some r := by rw [if_neg (show ¬ (false = true) by decide)] at H; exact H
    clear H
    have H := H1
    clear H1
    by_cases c5 : 57343 < a0
    ·rw [if_pos c5] at H
     have c5b0 : decide (57343 < a0) = true := decide_eq_true c5
     clear c5
     by_cases c6 : a0 ≤ 1114111
     ·rw [if_pos c6] at H
      have c6b0 : decide (a0 ≤ 1114111) = true := decide_eq_true c6
      clear c6
      obtain rfl := Option.some.inj H
      go_wp2
      go_ret
      exact ⟨by first | rfl | (simp; done) | (simp [*]; done), by repeat (first | exact Drawn0.refl _ | apply Drawn0.step)⟩
     ·rw [if_neg c6] at H
      have c6b0 : decide (a0 ≤ 1114111) = false := decide_eq_false c6
      clear c6
      obtain rfl := Option.some.inj H
      go_wp2
      go_ret
      exact ⟨by first | rfl | (simp; done) | (simp [*]; done), by repeat (first | exact Drawn0.refl _ | apply Drawn0.step)⟩
    ·rw [if_neg c5] at H
     have c5b0 : decide (57343 < a0) = false := decide_eq_false c5
     clear c5
     obtain rfl := Option.some.inj H
     go_wp2
     go_ret
     exact ⟨by first | rfl | (simp; done) | (simp [*]; done), by repeat (first | exact Drawn0.refl _ | apply Drawn0.step)⟩

end Go.Proofs.YtijbkiajhicooaaDoor.PW

namespace Go.Proofs.YtijbkiajhicooaaDoor.PW
open Go.RowKit Go.Proofs.YtijbkiajhicooaaDoorW.PrintWords Go.Proofs.YtijbkiajhicooaaDoorW.PrintLast Go.Proofs.YtijbkiajhicooaaDoorW.PrintMore
attribute [local go_sem] max2_int min2_int max_two min_two max_three min_three max_four min_four   -- for this text's walks alone
set_option linter.unusedVariables false
set_option linter.unusedSimpArgs false

def units_Len.f (k : Nat) (a0 : Int) : Option (Int) := (utf8_ValidRune.f k a0).bind fun t101 => (if t101 = true then (if a0 > 65535 then (some 2) else (some 1)) else (some 0))
set_option maxHeartbeats 8000000 in
set_option maxRecDepth 100000 in
theorem units_Len.calls (k : Nat) (a0 : Int) (r : Int) (w : World) (h : units_Len.f k a0 = some r) :
  Calls Tryd.prog 117 #[.int .i32 a0] w fun e w' => e = .returned (.int .i64 r) ∧ Drawn0 w w' := by
 have H : ((utf8_ValidRune.f k a0).bind fun t101 => (if t101 = true then (if a0 > 65535 then (some 2) else (some 1)) else (some 0))) = some r := h
 clear h
 replace H := Option.bind_eq_some_iff.mp H
 obtain ⟨t101, A20, H⟩ := H
 replace H : (if t101 = true then (if a0 > 65535 then (some 2) else (some 1)) else (some 0)) = some r := H
 have A2 := Aside0.mk A20
 clear A20
 by_cases c3 : t101 = true
 ·subst c3
  have H1 : (if a0 > 65535 then (some 2) else (some 1)) = some r := by rw [if_pos rfl] at H; exact H
  clear H
  have H := H1
  clear H1
  by_cases c4 : a0 > 65535
  ·rw [if_pos c4] at H
   have c4b0 : decide (65535 < a0) = true := decide_eq_true c4
   clear c4
   obtain rfl := Option.some.inj H
   go_enter Tryd.func117, Tryd.ntmps117
   go_wp2_with (first | ((with_reducible refine gate_callee (f := 119) rfl ?_); refine goesL_ (some 5) rfl rfl Tryd.func119 (by kernel_rfl) rfl #[.int .i32 a0] rfl (by (try simp only [List.map_toArray, List.map_cons, List.map_nil]); first | done | rfl | (simp only [List.length_drop, List.length_take]; rfl)) ?_; (with_reducible refine (utf8_ValidRune.calls k a0 true _ A2.out).mono ?_); rintro e w' ⟨rfl, ⟨nd, rfl⟩⟩; refine ⟨_, rfl, ?_⟩))
   go_ret
   exact ⟨by first | rfl | (simp; done) | (simp [*]; done), by repeat (first | exact Drawn0.refl _ | apply Drawn0.step)⟩
  ·rw [if_neg c4] at H
   have c4b0 : decide (65535 < a0) = false := decide_eq_false c4
   clear c4
   obtain rfl := Option.some.inj H
   go_enter Tryd.func117, Tryd.ntmps117
   go_wp2_with (first | ((with_reducible refine gate_callee (f := 119) rfl ?_); refine goesL_ (some 5) rfl rfl Tryd.func119 (by kernel_rfl) rfl #[.int .i32 a0] rfl (by (try simp only [List.map_toArray, List.map_cons, List.map_nil]); first | done | rfl | (simp only [List.length_drop, List.length_take]; rfl)) ?_; (with_reducible refine (utf8_ValidRune.calls k a0 true _ A2.out).mono ?_); rintro e w' ⟨rfl, ⟨nd, rfl⟩⟩; refine ⟨_, rfl, ?_⟩))
   go_ret
   exact ⟨by first | rfl | (simp; done) | (simp [*]; done), by repeat (first | exact Drawn0.refl _ | apply Drawn0.step)⟩
 ·replace c3 := Bool.eq_false_iff.mpr c3
  subst c3
  have H1 : (some 0) = some r := by rw [if_neg (show ¬ (false = true) by decide)] at H; exact H
  clear H
  have H := H1
  clear H1
  obtain rfl := Option.some.inj H
  go_enter Tryd.func117, Tryd.ntmps117
  go_wp2_with (first | ((with_reducible refine gate_callee (f := 119) rfl ?_); refine goesL_ (some 5) rfl rfl Tryd.func119 (by kernel_rfl) rfl #[.int .i32 a0] rfl (by (try simp only [List.map_toArray, List.map_cons, List.map_nil]); first | done | rfl | (simp only [List.length_drop, List.length_take]; rfl)) ?_; (with_reducible refine (utf8_ValidRune.calls k a0 false _ A2.out).mono ?_); rintro e w' ⟨rfl, ⟨nd, rfl⟩⟩; refine ⟨_, rfl, ?_⟩))
  go_ret
  exact ⟨by first | rfl | (simp; done) | (simp [*]; done), by repeat (first | exact Drawn0.refl _ | apply Drawn0.step)⟩

end Go.Proofs.YtijbkiajhicooaaDoor.PW

namespace Go.Proofs.YtijbkiajhicooaaDoor.PW
open Go.RowKit Go.Proofs.YtijbkiajhicooaaDoorW.PrintWords Go.Proofs.YtijbkiajhicooaaDoorW.PrintLast Go.Proofs.YtijbkiajhicooaaDoorW.PrintMore
attribute [local go_sem] max2_int min2_int max_two min_two max_three min_three max_four min_four   -- for this text's walks alone
set_option linter.unusedVariables false
set_option linter.unusedSimpArgs false

/-- A rune's length in units. -/
def unitsLen (r : Int) : Int := if (0 ≤ r ∧ r < 55296) ∨ (57343 < r ∧ r ≤ 1114111) then (if r > 65535 then 2 else 1) else 0
theorem unitsLen_of (r : Int) : units_Len.f 3 r = some (unitsLen r) := by
 unfold units_Len.f utf8_ValidRune.f unitsLen
 simp only [utf8_ValidRune.j0]
 repeat' split
 all_goals first | rfl | (exfalso; simp_all; omega) | (simp_all <;> omega)
/-- An edge by the rulers. -/
abbrev At3 := Int × Int × Int
def addAt (a : At3) (x : PStep) : At3 := (wrap64 (a.1 + x.2.2.1), wrap64 (a.2.1 + 1), wrap64 (a.2.2 + unitsLen x.2.1))
def edgesFrom : At3 → List PStep → List At3
 | _, [] => []
 | a, x :: l => addAt a x :: edgesFrom (addAt a x) l
def allEdges (s : ByteArray) : List At3 := (0, 0, 0) :: edgesFrom (0, 0, 0) (allSteps s)
abbrev encAt (x : At3) : Array Value := #[.agg #[.int .i64 0, .int .i64 x.1, .int .i64 x.2.1, .int .i64 x.2.2]]
def sizeOf3 (l0 : List Int) : At3 := (allSteps (strOfNums l0)).foldl addAt (0, 0, 0)
def rule_size.f (l0 : List Int) (a1 : Int) : Option Int := if l0.length ≤ 4398046511104 then (if a1 = 2 then some (sizeOf3 l0).2.1 else if a1 = 3 then some (sizeOf3 l0).2.2 else none) else none
theorem blk_put4 {W : World} {g : Nat} {t : TypeId} {a0 a1 a2 a3 : Value} (x0 x1 x2 x3 : Value) (h : W.heap[g]? = some (.cells #[a0, a1, a2, a3] t (0, 0))) :
  ((((W.setCell ⟨g, 0, none⟩ x0).setCell ⟨g, 1, none⟩ x1).setCell ⟨g, 2, none⟩ x2).setCell ⟨g, 3, none⟩ x3).heap[g]? = some (.cells #[x0, x1, x2, x3] t (0, 0)) :=
 blk_put (blk_put (blk_put (blk_put h 0 x0 (cs' := #[x0, a1, a2, a3]) rfl) 1 x1 (cs' := #[x0, x1, a2, a3]) rfl) 2 x2 (cs' := #[x0, x1, x2, a3]) rfl) 3 x3 rfl
theorem below_put4 {w W : World} {g n : Nat} (h : Below n w W) (hg : n ≤ g) (x0 x1 x2 x3 : Value) :
  Below n w ((((W.setCell ⟨g, 0, none⟩ x0).setCell ⟨g, 1, none⟩ x1).setCell ⟨g, 2, none⟩ x2).setCell ⟨g, 3, none⟩ x3) :=
 (((h.setCell (p := ⟨g, 0, none⟩) hg _).setCell (p := ⟨g, 1, none⟩) hg _).setCell (p := ⟨g, 2, none⟩) hg _).setCell (p := ⟨g, 3, none⟩) hg _
attribute [local go_sem] Oper.semAt_some
set_option maxRecDepth 100000 in
theorem rule_counts.calls (n : Nat) (h1 : 1 ≤ n) (r wd : Int) (b : Bool) (w : World) :
  CallsIn Fence.wide n Tryd.prog 115 #[.agg #[.int .i32 r, .int .i64 wd, .bool b]] w fun e w' => e = .returned (.agg #[.int .i64 0, .int .i64 wd, .int .i64 1, .int .i64 (unitsLen r)]) ∧ Below w.heap.size w w' := by
 refine callsIn_of_wp Tryd.func115 rfl trivial ?_ rfl
 have hu := Tryd.underlying23
 have hu2 := Tryd.underlying135
 have U := Aside0.mk (unitsLen_of r)
 have hmx : Tryd.prog.follows .mixedOrders = true := by kernel_rfl
 simp only [Tryd.ntmps115, List.size_toArray, List.length_cons, List.length_nil, Nat.reduceAdd, Nat.reduceSub, Array.replicate_succ, Array.replicate_zero, List.push_toArray, List.append_toArray, List.nil_append, List.cons_append]
 gi_wp2
 gi_region_with_o (refine ⟨trivial, ?_⟩; gi_at_call 117; refine (callsIn_wide.2 (units_Len.calls 3 r _ _ U.out)).mono ?_; rintro e w' ⟨rfl, ⟨nd, rfl⟩⟩)
 all_goals gi_wp2
 all_goals refine bodyPost_ret (results_cell_row rfl _ _ (w.heap.size + 1) 135 #[.int .i64 0, .int .i64 wd, .int .i64 1, .int .i64 (unitsLen r)] (0, 0) _ rfl (blk_put4 _ _ _ _ (blk_drewN (by have := blk_new (w.alloc (.cells #[.int .i32 r, .int .i64 wd, .bool b] 23)) (.cells #[.int .i64 0, .int .i64 0, .int .i64 0, .int .i64 0] 135); rwa [World.size_alloc] at this) _)) Tryd.underlying135 rfl (by kernel_rfl)) rfl ?_
 all_goals exact ⟨rfl, below_put4 (pw_below_drewN (((Below.refl _ w).alloc (Nat.le_refl _) _).alloc (by simp) _) _) (by omega) _ _ _ _⟩
def AbidesAll {β : Type} (B : Nat) (J : β → World → Prop) : Prop := ∀ s W W' row, J s W → W.grownBy W' row → (∀ r, row = some r → B ≤ r) → J s W'
def SeqAny {α : Type} (F : Fence) (n : Nat) (P : Program) (g : Nat) (lb : Array Value) (encs : α → Array Value) (Kp : Nat → World → World → Prop) (S : List α → Prop) (w : World) : Prop :=
 ∀ (l : Nat) (J : List α → World → Prop) (W : World), Below w.heap.size w W → w.heap.size ≤ l → l < W.heap.size → AbidesAll W.heap.size J →
  (∀ pre x W1, J pre W1 → YieldAt F (n - 1) P l (encs x) W1 fun e W' => e = .returned (.bool true) ∧ J (pre ++ [x]) W' ∧ Kp l W1 W') → J [] W →
  CallsIn F n P g (#[.func (.yield l) #[] #[]] ++ lb) W fun e W' => (∃ v, e = .returned v) ∧ ∃ xs, S xs ∧ J xs W'
theorem AbidesAll.putObj {β : Type} {B : Nat} {I : β → World → Prop} (h : AbidesAll B I) {s : β} {W : World} {l : Nat} (o' : Obj) (hs : I s W) (hB : B ≤ l) : I s (W.putObj l o') :=
 h s W _ (some l) hs (grownBy_putObj' W l o') (fun r e => by cases e; exact hB)
theorem AbidesAll.alloc {β : Type} {B : Nat} {I : β → World → Prop} (h : AbidesAll B I) {s : β} {W : World} (o : Obj) (hs : I s W) : I s (W.alloc o) :=
 h s W _ none hs (World.grownBy_alloc W o none) (fun r e => by cases e)
theorem wpIn_rangeFunc_any {α : Type} {F : Fence} {n : Nat} {P : Program} {w : World} {g : Operand} {ps : Array Tmp} {assign body : Code} {Q : Exit → Act → World → Prop} {a : Act}
  (hro : F.round = none) (h1 : 1 ≤ n) {gf : Nat} {lb : Array Value} (hg : a.eval g = .func (.func gf) #[] lb) (hFg : F.fn gf) (eg : ∀ args w, (callFunc gf args).run P w = .ok (.enter gf args) w)
  {encs : α → Array Value} {Kp : Nat → World → World → Prop} {S : List α → Prop} {w0 : World} (hseq : SeqAny F (n - 1) P gf lb encs Kp S w0)
  (hKt : ∀ {l : Nat} {A B C : World}, Kp l A B → Kp l B C → Kp l A C) (hKb : ∀ (W : World) (l : Nat) (o o' : Obj), w.heap.size ≤ l → W.heap[l]? = some o → o.isCells = false → o.isWalk = false → Kp l W (W.putObj l o'))
  (hb0 : Below w0.heap.size w0 w) (hps : ∀ x, (encs x).size = ps.size)
  (I : List α → World → Prop) (hI : AbidesAll w.heap.size I) (h0 : I [] w) (Ax : α → Act → World → Prop) (hAx : ∀ x a', OwnFrom w.heap.size (fun (_ : Unit) W => Ax x a' W))
  (hassign : ∀ (l : Nat) (pre : List α) (x : α) (W : World) (K : Act → World → Prop), I pre W → (∀ a' W', KeepsFrom w.heap.size W W' → Kp l W W' → I pre W' → Ax x a' W' → K a' W') →
   assign.wpIn (F.inRound l) (n - 1 - 1) P (Exit.then K (fun _ _ _ => False)) { tmps := (ps.zip (encs x)).foldl (fun t (p, v) => t.setIfInBounds p v) a.tmps, defers := [] } W)
  (hbody : ∀ (l : Nat) (pre : List α) (x : α) (a' : Act) (W : World), I pre W → Ax x a' W → body.wpIn (F.inRound l) (n - 1 - 1) P (fun e _ W3 => e = .normal ∧ KeepsFrom w.heap.size W W3 ∧ Kp l W W3 ∧ I (pre ++ [x]) W3) a' W)
  (hdone : ∀ (D : Nat) (xs : List α) (W : World), w.heap.size ≤ D → S xs → I xs W → W.heap[D]? = some (.deferred (some [])) → Q .normal { a with defers := { target := .collected D, args := #[] } :: a.defers } W) :
  (Code.rangeFunc g ps assign body).wpIn F n P Q a w := by
 refine wpIn_rangeFunc ?_
 intro fn hfn
 rw [hro]
 obtain ⟨rec, hrec⟩ : ∃ rec : LoopState → Option Code → Loop, rec = fun st pe => { state := st, pending := pe, fn, tmps := a.tmps, params := ps, assign, body, defers := w.heap.size } := ⟨_, rfl⟩
 obtain ⟨W1, hW1⟩ : ∃ W1, (w.alloc (.deferred (some []))).alloc (.loop (rec .ready none)) = W1 := ⟨_, rfl⟩
 have hs1 : W1.heap.size = w.heap.size + 2 := by rw [← hW1]; simp
 have hL1 : W1.heap[w.heap.size + 1]? = some (.loop (rec .ready none)) := by
  rw [← hW1]; have := World.alloc_heap_new (w.alloc (.deferred (some []))) (.loop (rec .ready none)); rwa [World.size_alloc] at this
 have hK1 : W1.heap[w.heap.size]? = some (.deferred (some [])) := by
  rw [← hW1]; exact (Below.heap_alloc _ _ _ (by simp)).trans (World.alloc_heap_new w _)
 have hI1 : I [] W1 := by rw [← hW1]; exact hI.alloc _ (hI.alloc _ h0)
 have hb1 : Below w0.heap.size w0 W1 := by
  rw [← hW1]; exact hb0.trans ((((Below.refl _ w).alloc (Nat.le_refl _) _).alloc (by simp) _).mono hb0.size)
 refine ⟨w.heap.size + 1, [{ target := .collected w.heap.size, args := #[] }], W1, { target := .fn (.func gf) lb, args := #[.func (.yield (w.heap.size + 1)) #[] #[]] }, W1, gf,
  #[.func (.yield (w.heap.size + 1)) #[] #[]] ++ lb, W1, ?_, ?_, ?_, ?_, fun _ => h1, ?_⟩
 ·rw [← hW1, hrec]; exact run_enterLoop_outer _ _ _ _ _
 ·simp only [resolve, hg]
  simp [go_sem]
 ·intro f' hf'; simp [Target.leads] at hf'; subst hf'; exact hFg
 ·simp [invoke, go_sem, eg]
 ·refine (hseq (w.heap.size + 1) (fun pre W => I pre W ∧ W.heap[w.heap.size + 1]? = some (.loop (rec .ready none)) ∧ W.heap[w.heap.size]? = some (.deferred (some []))) W1 hb1 (Nat.le_trans hb0.size (by omega)) (by omega)
   (fun s A B row hs hg' hr => ⟨hI s A B row hs.1 hg' (fun r e => by have := hr r e; omega),
    (hg'.block _ (Array.getElem?_eq_some_iff.1 hs.2.1).1 (fun e => by have := hr _ e.symm; omega)).trans hs.2.1,
    (hg'.block _ (Array.getElem?_eq_some_iff.1 hs.2.2).1 (fun e => by have := hr _ e.symm; omega)).trans hs.2.2⟩) ?_ ⟨hI1, hL1, hK1⟩).mono ?_
  ·rintro pre x W ⟨hi, hl, hk⟩
   have hy := run_yield (P := P) (args := encs x) hl (by rw [hrec]; exact hps x)
   rw [hrec] at hy
   refine ⟨fn, _, assign, body, hy, roundIn_of_wpIn hfn (hassign _ pre x W _ hi ?_)⟩
   intro a' Wa hkfa hkpa hia hax
   have hl' := hkfa.same _ _ (by omega) hl rfl
   have hk' := hkfa.same _ _ (Nat.le_refl _) hk rfl
   have hlt : w.heap.size + 1 < Wa.heap.size := (Array.getElem?_eq_some_iff.1 hl').1
   refine ⟨_, run_beginRound hl' (by rw [hrec]), ?_⟩
   obtain ⟨W2, hW2⟩ : ∃ W2, Wa.putObj (w.heap.size + 1) (.loop { rec .ready none with state := .busy }) = W2 := ⟨_, rfl⟩
   have hl2 : W2.heap[w.heap.size + 1]? = some (.loop { rec .ready none with state := .busy }) := by rw [← hW2]; exact World.putObj_heap_same hlt
   have hk2 : W2.heap[w.heap.size]? = some (.deferred (some [])) := by rw [← hW2]; exact (World.putObj_heap_other (by omega)).trans hk'
   have hw2 : Kp (w.heap.size + 1) Wa W2 := by rw [← hW2]; exact hKb _ _ _ _ (by omega) hl' rfl rfl
   have hi2 : I pre W2 := by rw [← hW2]; exact hI.putObj _ hia (by omega)
   have hx2 : Ax x a' W2 := by rw [← hW2]; exact (hAx x a').putObj (s := ()) _ hax (by omega) hl' rfl
   rw [hW2]
   refine wpIn_mono (hbody _ pre x a' _ hi2 hx2) ?_
   rintro e a3 W3 ⟨rfl, hk3, hkp3, hi3⟩
   have hl3 := hk3.same _ _ (by omega) hl2 rfl
   have hr := run_endRound (P := P) none hl3
   rw [hrec] at hr hl3
   refine ⟨_, _, hr, ⟨rfl, ⟨hI.putObj _ hi3 (by omega), ?_, (World.putObj_heap_other (by omega)).trans (hk3.same _ _ (Nat.le_refl _) hk2 rfl)⟩, hKt hkpa (hKt (hKt hw2 hkp3) (hKb _ _ _ _ (by omega) hl3 rfl rfl))⟩⟩
   rw [hrec]; exact World.putObj_heap_same (Array.getElem?_eq_some_iff.1 hl3).1
  ·rintro e W2 ⟨⟨v, rfl⟩, ⟨xs, hS, hi, hl, hk⟩⟩
   exact ⟨none, _, by have := run_endLoop (P := P) hl (by rw [hrec]; simp); rw [hrec] at this; exact this, hdone _ xs _ (Nat.le_refl _) hS (hI.putObj _ hi (by omega)) ((World.putObj_heap_other (by omega)).trans hk)⟩

theorem roundIn_any {n m l l' : Nat} {P : Program} {f : FuncId} {tmps : Array Value} {assign body : Code} {w : World} {R : Ending → World → Prop} (h : RoundIn Fence.wide n P l f tmps assign body w R) : RoundIn (Fence.wide.inRound l') m P l f tmps assign body w R :=
 ⟨h.1, fun c cs _ => h.2 c cs (room_wide _)⟩
theorem roundIn_w {n m l : Nat} {P : Program} {f : FuncId} {tmps : Array Value} {assign body : Code} {w : World} {R : Ending → World → Prop} (h : RoundIn Fence.wide n P l f tmps assign body w R) : RoundIn Fence.wide m P l f tmps assign body w R :=
 ⟨h.1, fun c cs _ => h.2 c cs (room_wide _)⟩
/-- What a round of a loop over the edges leaves: all below n₀, what is walked over, and all but the loop's record and the block Bn. -/
structure KpBut (n₀ Bn l : Nat) (W W' : World) : Prop where
 below : Below n₀ W W'
 walks : KeepsWalks W W'
 same : ∀ (k : Nat) (o : Obj), k ≠ Bn → k ≠ l → W.heap[k]? = some o → W'.heap[k]? = some o
theorem KpBut.t {n₀ Bn l : Nat} {A B C : World} (h : KpBut n₀ Bn l A B) (k : KpBut n₀ Bn l B C) : KpBut n₀ Bn l A C := ⟨h.below.trans k.below, h.walks.trans k.walks, fun i o h1 h2 h3 => k.same i o h1 h2 (h.same i o h1 h2 h3)⟩
theorem foldEdges (l : List PStep) (x : PStep) : (0, 0, 0) :: edgesFrom (0, 0, 0) (l ++ [x]) = ((0, 0, 0) :: edgesFrom (0, 0, 0) l) ++ [addAt (l.foldl addAt (0, 0, 0)) x] := by
 have : ∀ (l : List PStep) (a : At3), edgesFrom a (l ++ [x]) = edgesFrom a l ++ [addAt (l.foldl addAt a) x] := by
  intro l
  induction l with
  | nil => intro a; rfl
  | cons y l ih => intro a; simp only [List.cons_append, edgesFrom, ih, List.foldl_cons]
 rw [this]
 rfl
/-- How a round over the steps is left, within the edges. -/
def EdgesPost (B : Nat) (Kp : World → World → Prop) (I : World → Prop) (W : World) : Exit → Act → World → Prop := fun e _ W2 => e = .normal ∧ KeepsFrom B W W2 ∧ Kp W W2 ∧ I W2
theorem grown_set (W : World) (a : Addr) (v : Value) : W.grownBy (W.setCell a v) (some a.block) :=
 ⟨rfl, rfl, rfl, (KeepsWalks.setCell W _ v).size, fun k _ hk => Below.heap_setCell _ _ _ k (fun e => hk (by rw [e]))⟩
theorem grown_at (W : World) (g i : Nat) (v : Value) : W.grownBy (W.setCell ⟨g, i, none⟩ v) (some g) := grown_set W ⟨g, i, none⟩ v
theorem grown_put4 (W : World) (g : Nat) (x0 x1 x2 x3 : Value) : W.grownBy ((((W.setCell ⟨g, 0, none⟩ x0).setCell ⟨g, 1, none⟩ x1).setCell ⟨g, 2, none⟩ x2).setCell ⟨g, 3, none⟩ x3) (some g) :=
 World.grownBy.trans (World.grownBy.trans (World.grownBy.trans (grown_at W g 0 x0) (grown_at _ g 1 x1)) (grown_at _ g 2 x2)) (grown_at _ g 3 x3)
theorem others_put4 (W : World) (g : Nat) (x0 x1 x2 x3 : Value) : KeepsOthers W ((((W.setCell ⟨g, 0, none⟩ x0).setCell ⟨g, 1, none⟩ x1).setCell ⟨g, 2, none⟩ x2).setCell ⟨g, 3, none⟩ x3) :=
 (((KeepsOthers.setCell W _ x0).trans (KeepsOthers.setCell _ _ x1)).trans (KeepsOthers.setCell _ _ x2)).trans (KeepsOthers.setCell _ _ x3)
set_option maxRecDepth 100000 in
set_option maxHeartbeats 4000000 in
theorem rule_edges1.any (n : Nat) (A0 : Option Addr) (c0 : Nat) (l0 : List Int) (w : World) (hr0 : Kd.C (Kd.int .u8) w A0 l0.length l0) (hc0 : l0.length ≤ c0) (hlim : l0.length ≤ 4398046511104) (hL : LaidBad w) (wS : World) (hwS : Below w.heap.size w wS)
  (Bb Bn : Nat) (hBb : wS.heap[Bb]? = some (.cells #[.slice A0 l0.length c0] 29 (0, 0))) (hne : Bb ≠ Bn) (hBn : Bn < wS.heap.size) :
  SeqAny Fence.wide n Tryd.prog 114 #[.pointer (some ⟨Bb, 0, none⟩)] encAt (KpBut w.heap.size Bn) (fun xs => xs = allEdges (strOfNums l0)) wS := by
 intro l J W hW hlS hl hJ hY h0
 refine callsIn_wide.2 ((callsIn_wide (n := 10)).1 ?_)
 refine callsIn_of_wp_marks Tryd.func114 rfl trivial ?_ rfl
 have hbW := Below.trans hwS (hW.mono hwS.size)
 have hbb : W.heap[Bb]? = some (.cells #[.slice A0 l0.length c0] 29 (0, 0)) := blk_below hBb hW
 have hBnW : Bn < W.heap.size := Nat.lt_of_lt_of_le hBn hW.size
 have hu := Tryd.underlying135
 have hu2 := Tryd.underlying23
 simp only [Tryd.ntmps114, List.size_toArray, List.length_cons, List.length_nil, Nat.reduceAdd, Nat.reduceSub, Array.replicate_succ, Array.replicate_zero, List.push_toArray, List.append_toArray, List.nil_append, List.cons_append]
 obtain ⟨W1, hW1⟩ : ∃ W1, (W.alloc (.cells #[.func (.yield l) #[] #[]] 176)).alloc (.cells #[.int .i64 0, .int .i64 0, .int .i64 0, .int .i64 0] 135) = W1 := ⟨_, rfl⟩
 have hy1 : W1.heap[W.heap.size]? = some (.cells #[.func (.yield l) #[] #[]] 176 (0, 0)) := by rw [← hW1]; exact blk_alloc (blk_new W _) _
 have ha1 : W1.heap[W.heap.size + 1]? = some (.cells #[.int .i64 0, .int .i64 0, .int .i64 0, .int .i64 0] 135 (0, 0)) := by
  rw [← hW1]; have := blk_new (W.alloc (.cells #[.func (.yield l) #[] #[]] 176)) (.cells #[.int .i64 0, .int .i64 0, .int .i64 0, .int .i64 0] 135); rwa [World.size_alloc] at this
 have hb1 : Below W.heap.size W W1 := by rw [← hW1]; exact ((Below.refl _ W).alloc (Nat.le_refl _) _).alloc (by simp) _
 have hs1 : W1.heap.size = W.heap.size + 2 := by rw [← hW1]; simp
 have hJ1 : J [] W1 := by rw [← hW1]; exact hJ.alloc _ (hJ.alloc _ h0)
 obtain ⟨fn, tmps, assign, body, hy, hR⟩ := hY [] (0, 0, 0) W1 hJ1
 have cy := blk_cell hy1 0
 have ca0 := blk_cell ha1 0
 have ca1 := blk_cell ha1 1
 have ca2 := blk_cell ha1 2
 have ca3 := blk_cell ha1 3
 gi_wp2
 refine (roundIn_w hR).mono ?_
 rintro e W3 ⟨rfl, hJ3, hk3⟩
 have hy3 := hk3.same _ _ (by omega) (by omega) hy1
 have ha3 := hk3.same _ _ (by omega) (by omega) ha1
 have hbb3 := hk3.same Bb _ hne (by have := blk_lt hBb; omega) (blk_below hbb hb1)
 have hb3 : Below w.heap.size w W3 := (hbW.trans (hb1.mono hbW.size)).trans hk3.below
 have hsz3 : W.heap.size + 2 ≤ W3.heap.size := by have := hk3.below.size; omega
 clear hy hR hW1 cy ca0 ca1 ca2 ca3 hy1 ha1 hJ1 hb1
 have cb := blk_cell hbb3 0
 have HC3 := Aside0.mk (Kd.C_below hr0 hb3)
 have HC0 := Aside0.mk hr0
 have HY := Aside0.mk hY
 clear hr0 h0 hY
 gi_wp2_with (refine ⟨trivial, ?_⟩; gi_at_call 47; refine (callsIn_wide.2 (step_All.calls A0 c0 l0 _ HC3.out hc0)).mono ?_; rintro e w' ⟨rfl, rfl⟩)
 obtain ⟨W4, hW4⟩ : ∃ W4, W3.alloc (.cells #[.string (strOfNums l0)] 9) = W4 := ⟨_, rfl⟩
 have bs4 : W4.heap[W3.heap.size]? = some (.cells #[.string (strOfNums l0)] 9 (0, 0)) := by rw [← hW4]; exact blk_new W3 _
 have hy4 : W4.heap[W.heap.size]? = some (.cells #[.func (.yield l) #[] #[]] 176 (0, 0)) := by rw [← hW4]; exact blk_alloc hy3 _
 have ha4 : W4.heap[W.heap.size + 1]? = some (.cells #[.int .i64 0, .int .i64 0, .int .i64 0, .int .i64 0] 135 (0, 0)) := by rw [← hW4]; exact blk_alloc ha3 _
 have hb34 : Below W3.heap.size W3 W4 := by rw [← hW4]; exact (Below.refl _ W3).alloc (Nat.le_refl _) _
 have hb4 : Below w.heap.size w W4 := hb3.trans (hb34.mono hb3.size)
 have hs4 : W4.heap.size = W3.heap.size + 1 := by rw [← hW4]; simp
 have hJ4 : J [(0, 0, 0)] W4 := by rw [← hW4]; exact hJ.alloc _ hJ3
 have hL4 := laid_below hL hb4
 have hpos : 0 < w.heap.size := laid_lt hL
 have hns : (strOfNums l0).size ≤ 4398046511104 := by rw [strOfNums_size]; exact hlim
 rw [hW4]
 clear hW4 hy3 ha3 hb34 hJ3 HC3 cb
 refine wpIn_rangeFunc_ownH rfl (by decide) (gf := 72) (lb := #[.pointer (some ⟨W3.heap.size, 0, none⟩)]) rfl trivial (enters_of Tryd.func72 (by kernel_rfl) rfl)
  (step_All1.stops (10 - 1) W3.heap.size w.heap.size (by decide) (strOfNums l0) (by omega) hpos W4 bs4 hb4.size hL4) KpBox.t (KpBox.b hb4.size (by omega)) (Below.refl _ _) (fun _ => rfl)
  (fun pre V => ((Below w.heap.size w V ∧ V.heap[W3.heap.size]? = some (.cells #[.string (strOfNums l0)] 9 (0, 0))) ∧ V.heap[W.heap.size]? = some (.cells #[.func (.yield l) #[] #[]] 176 (0, 0)) ∧
   V.heap[W.heap.size + 1]? = some (.cells #[.int .i64 0, .int .i64 (pre.foldl addAt (0, 0, 0)).1, .int .i64 (pre.foldl addAt (0, 0, 0)).2.1, .int .i64 (pre.foldl addAt (0, 0, 0)).2.2] 135 (0, 0))) ∧ J ((0, 0, 0) :: edgesFrom (0, 0, 0) pre) V)
  (fun _ _ _ => False)
  (fun s X Y row hs hg hr => ⟨⟨⟨ownFrom_below (Nat.le_refl _) (Nat.le_trans hbW.size (by omega)) s X Y row hs.1.1.1 hg hr, blk_abides hs.1.1.2 hg (fun r e => (hr r e).2)⟩, blk_abides hs.1.2.1 hg (fun r e => (hr r e).2), blk_abides hs.1.2.2 hg (fun r e => (hr r e).2)⟩,
   hJ _ X Y row hs.2 hg (fun r e => by have := (hr r e).1; omega)⟩)
  (fun _ _ _ _ _ hs _ _ => hs)
  ⟨⟨⟨hb4, bs4⟩, hy4, ha4⟩, hJ4⟩
  (fun x a' V => ∃ Bx, W4.heap.size ≤ Bx ∧ V.heap[Bx]? = some (.cells #[.int .i32 x.2.1, .int .i64 x.2.2.1, .bool x.2.2.2] 23 (0, 0)) ∧ a' = { tmps := #[.func (.yield l) #[] #[], .pointer (some ⟨Bb, 0, none⟩), .pointer (some ⟨W.heap.size, 0, none⟩), .pointer (some ⟨W.heap.size + 1, 0, none⟩), undef, .pointer (some ⟨Bx, 0, none⟩), undef, undef, .func (.yield l) #[] #[], .agg #[.int .i64 0, .int .i64 0, .int .i64 0, .int .i64 0], .bool true, .bool false, .slice A0 l0.length c0, .func (.func 72) #[] #[.pointer (some ⟨W3.heap.size, 0, none⟩)], .int .i64 x.1, .agg #[.int .i32 x.2.1, .int .i64 x.2.2.1, .bool x.2.2.2], undef, undef, undef, undef, undef, undef, undef, undef, undef, undef, undef, undef, undef, undef, undef, undef, undef], defers := [] })
  (fun x a' _ X Y row hs hg hr => by obtain ⟨Bx, h1, h2, h3⟩ := hs; exact ⟨Bx, h1, blk_abides h2 hg (fun r e => (hr r e).2), h3⟩)
  ?assign ?body ?done ?stop
 case assign =>
  rintro l' pre x V K ⟨⟨⟨hB, hbs⟩, hy, ha⟩, hj⟩ hK
  gi_wp2
  have hlt := blk_lt hbs
  exact hK _ _ ((KeepsOthers.alloc _ _).from _) (KpBox.of ((Below.refl _ V).alloc hB.size _) ((blk_alloc hbs _).trans hbs.symm) (KeepsOthers.alloc _ _)) ⟨⟨⟨hB.alloc hB.size _, blk_alloc hbs _⟩, blk_alloc hy _, blk_alloc ha _⟩, hJ.alloc _ hj⟩ ⟨V.heap.size, by omega, blk_new V _, rfl⟩
 case body =>
  rintro l' pre x a' V hl' ⟨r, hr⟩ ⟨⟨⟨hB, hbs⟩, hy, ha⟩, hj⟩ ⟨Bx, hBx, hbx, rfl⟩ hlen
  obtain ⟨xp, xr, xw, xb⟩ := x
  dsimp only at hbx ⊢
  refine wpIn_mono (Q := EdgesPost W4.heap.size (KpBox w.heap.size W3.heap.size) (fun V2 => ((Below w.heap.size w V2 ∧ V2.heap[W3.heap.size]? = some (.cells #[.string (strOfNums l0)] 9 (0, 0))) ∧ V2.heap[W.heap.size]? = some (.cells #[.func (.yield l) #[] #[]] 176 (0, 0)) ∧
   V2.heap[W.heap.size + 1]? = some (.cells #[.int .i64 0, .int .i64 ((pre ++ [(xp, xr, xw, xb)]).foldl addAt (0, 0, 0)).1, .int .i64 ((pre ++ [(xp, xr, xw, xb)]).foldl addAt (0, 0, 0)).2.1, .int .i64 ((pre ++ [(xp, xr, xw, xb)]).foldl addAt (0, 0, 0)).2.2] 135 (0, 0))) ∧ J ((0, 0, 0) :: edgesFrom (0, 0, 0) (pre ++ [(xp, xr, xw, xb)])) V2) V) ?walk ?post
  case post =>
   rintro e a2 V2 ⟨rfl, g1, g2, g3⟩
   exact ⟨g1, g2, g3⟩
  rw [foldEdges, List.foldl_append, List.foldl_cons, List.foldl_nil]
  generalize (0, 0, 0) :: edgesFrom (0, 0, 0) pre = ys at *
  generalize pre.foldl addAt (0, 0, 0) = at0 at *
  obtain ⟨p0, p1, p2⟩ := at0
  have h1' : 1 ≤ 10 - 1 - 1 := by decide
  have cx0 := blk_cell hbx 0
  have cx1 := blk_cell hbx 1
  have cx2 := blk_cell hbx 2
  have hlt := blk_lt hbs
  gi_wp2_with (fail)
  refine ⟨trivial, ?_⟩
  gi_at_call 115
  refine (CallsIn.inRound l' (rule_counts.calls _ (by decide) xr xw xb V)).mono ?_
  rintro e Vk ⟨rfl, hbk⟩
  have hyk := blk_below hy hbk
  have hak := blk_below ha hbk
  have hbsk := blk_below hbs hbk
  have hjk : J ys Vk := hJ _ _ _ none hj (grown_of_below hbk none) (fun r e => by cases e)
  have hBk : Below w.heap.size w Vk := hB.trans (hbk.mono hB.size)
  have HOk := Aside0.mk (KeepsOthers.of_grownBy (grown_of_below hbk none) (fun j o hj _ => by cases hj))
  have HBK := Aside0.mk (hbk.mono hB.size)
  have HSS := Aside0.mk (hbsk.trans hbs.symm)
  clear hbk cx0 cx1 cx2 hbx hy ha hbs hj hr
  have cy := blk_cell hyk 0
  have ca0 := blk_cell hak 0
  have ca1 := blk_cell hak 1
  have ca2 := blk_cell hak 2
  have ca3 := blk_cell hak 3
  have fa0 := blk_frozen hak 0
  have fa1 := blk_frozen hak 1
  have fa2 := blk_frozen hak 2
  have fa3 := blk_frozen hak 3
  generalize hut : unitsLen xr = ut at *
  obtain ⟨V5, hV5⟩ : ∃ V5, ((((Vk.setCell ⟨W.heap.size + 1, 0, none⟩ (.int .i64 0)).setCell ⟨W.heap.size + 1, 1, none⟩ (.int .i64 (wrap64 (p0 + xw)))).setCell ⟨W.heap.size + 1, 2, none⟩ (.int .i64 (wrap64 (p1 + 1)))).setCell ⟨W.heap.size + 1, 3, none⟩ (.int .i64 (wrap64 (p2 + ut)))) = V5 := ⟨_, rfl⟩
  have ha5 : V5.heap[W.heap.size + 1]? = some (.cells #[.int .i64 0, .int .i64 (wrap64 (p0 + xw)), .int .i64 (wrap64 (p1 + 1)), .int .i64 (wrap64 (p2 + ut))] 135 (0, 0)) := by rw [← hV5]; exact blk_put4 _ _ _ _ hak
  have hg5 : Vk.grownBy V5 (some (W.heap.size + 1)) := by rw [← hV5]; exact grown_put4 _ _ _ _ _ _
  have ho5 : KeepsOthers Vk V5 := by rw [← hV5]; exact others_put4 _ _ _ _ _ _
  have hb5 : Below w.heap.size Vk V5 := by rw [← hV5]; exact below_put4 (Below.refl _ _) (by have := hbW.size; omega) _ _ _ _
  have hy5 := blk_grown hyk hg5 (by simp)
  have hbs5 := blk_grown hbsk hg5 (by simp; omega)
  have hj5 : J ys V5 := hJ _ _ _ _ hjk hg5 (fun r e => by cases e; omega)
  obtain ⟨fn, tmps, assign, body, hy, hR⟩ := HY.out ys (wrap64 (p0 + xw), wrap64 (p1 + 1), wrap64 (p2 + ut)) V5 hj5
  dsimp only [encAt] at hy
  have cy5 := blk_cell hy5 0
  have d0 := blk_cell ha5 0
  have d1 := blk_cell ha5 1
  have d2 := blk_cell ha5 2
  have d3 := blk_cell ha5 3
  gi_wp2
  have ix0 : ∀ (a b c d : Int) (w : World), (Instr.index 135 (.agg #[.int .i64 a, .int .i64 b, .int .i64 c, .int .i64 d]) (.int .i64 0)).run Tryd.prog w = .ok (.int .i64 a) w := by intros; kernel_rfl
  have ix1 : ∀ (a b c d : Int) (w : World), (Instr.index 135 (.agg #[.int .i64 a, .int .i64 b, .int .i64 c, .int .i64 d]) (.int .i64 1)).run Tryd.prog w = .ok (.int .i64 b) w := by intros; kernel_rfl
  have ix2 : ∀ (a b c d : Int) (w : World), (Instr.index 135 (.agg #[.int .i64 a, .int .i64 b, .int .i64 c, .int .i64 d]) (.int .i64 2)).run Tryd.prog w = .ok (.int .i64 c) w := by intros; kernel_rfl
  have ix3 : ∀ (a b c d : Int) (w : World), (Instr.index 135 (.agg #[.int .i64 a, .int .i64 b, .int .i64 c, .int .i64 d]) (.int .i64 3)).run Tryd.prog w = .ok (.int .i64 d) w := by intros; kernel_rfl
  refine wpIn_loop_rounds 5 ?_
  rw [roundsIn_succ]
  gi_wp2
  rw [roundsIn_succ]
  gi_wp2
  rw [roundsIn_succ]
  gi_wp2
  rw [roundsIn_succ]
  gi_wp2
  rw [roundsIn_succ]
  gi_wp2
  refine (roundIn_any hR).mono ?_
  rintro e V6 ⟨rfl, hj6, hk6⟩
  clear hy hR hV5 cy ca0 ca1 ca2 ca3 fa0 fa1 fa2 fa3 d0 d1 d2 d3 cy5
  gi_wp2
  have ha6 := hk6.same _ _ (by omega) (by omega) ha5
  have hy6 := hk6.same _ _ (by omega) (by omega) hy5
  have hbs6 := hk6.same _ _ (by omega) (by omega) hbs5
  refine ⟨rfl, ((HOk.out.trans ho5).from _).trans ⟨hk6.below.size, fun k o hk ho _ => hk6.same k o (by omega) (by omega) ho⟩, ⟨(HBK.out.trans hb5).trans hk6.below, ?_, (HOk.out.trans ho5).walks.trans hk6.walks⟩, ⟨⟨(hBk.trans hb5).trans hk6.below, hbs6⟩, hy6, ?_⟩, ?_⟩
  ·exact hbs6.trans (hbsk.symm.trans HSS.out)
  ·simpa [addAt, hut] using ha6
  ·simpa [addAt, hut] using hj6
 case done =>
  rintro D zs V hD rfl ⟨⟨⟨hB, hbs⟩, hy, ha⟩, hj⟩ hK
  gi_wp2
  refine ⟨by simp, .inl ⟨_, _, rfl, run_takeDeferred hK, ?_⟩⟩
  exact ⟨_, results_none rfl _ _ _, ⟨_, rfl⟩, _, rfl, hJ.putObj _ hj (show W.heap.size ≤ D by omega)⟩
 case stop =>
  rintro D c pre W _ _ h _
  exact h.elim

theorem rule_edges.calls (A0 : Option Addr) (c0 : Nat) (l0 : List Int) (w : World) :
  Calls Tryd.prog 108 #[.slice A0 l0.length c0] w fun e w' => e = .returned (.func (.func 114) #[] #[.pointer (some ⟨w.heap.size, 0, none⟩)]) ∧ w' = w.alloc (.cells #[.slice A0 l0.length c0] 29) := by
 go_enter Tryd.func108, Tryd.ntmps108
 go_wp2
 go_ret
 exact ⟨rfl, rfl⟩
theorem foldEdges_last (l : List PStep) : ∀ a : At3, ∃ ys, a :: edgesFrom a l = ys ++ [l.foldl addAt a] := by
 induction l with
 | nil => intro a; exact ⟨[], rfl⟩
 | cons x l ih =>
  intro a
  obtain ⟨ys, h⟩ := ih (addAt a x)
  exact ⟨a :: ys, by simp only [edgesFrom, h, List.cons_append, List.foldl_cons]⟩
def lastAt (l : List At3) : At3 := (l.getLast?).getD (0, 0, 0)
theorem lastAt_snoc (l : List At3) (x : At3) : lastAt (l ++ [x]) = x := by simp [lastAt]
theorem lastAt_all (l0 : List Int) : lastAt (allEdges (strOfNums l0)) = sizeOf3 l0 := by
 obtain ⟨ys, h⟩ := foldEdges_last (allSteps (strOfNums l0)) (0, 0, 0)
 unfold allEdges
 rw [h, lastAt_snoc]
 rfl
def SizePost (B Bn l : Nat) (n₀ : Nat) (I : World → Prop) (W : World) : Exit → Act → World → Prop := fun e _ W2 => e = .normal ∧ KeepsFrom B W W2 ∧ KpBut n₀ Bn l W W2 ∧ I W2

set_option maxRecDepth 100000 in
set_option maxHeartbeats 4000000 in
theorem rule_size.walk2 (A0 : Option Addr) (c0 : Nat) (l0 : List Int) (w : World) (hr0 : Kd.C (Kd.int .u8) w A0 l0.length l0) (hc0 : l0.length ≤ c0) (hL : LaidBad w) (hlim : l0.length ≤ 4398046511104) :
  Calls Tryd.prog 103 #[.slice A0 l0.length c0, .int .i64 2] w fun e w' => e = .returned (.int .i64 (sizeOf3 l0).2.1) ∧ Below w.heap.size w w' := by
 refine (callsIn_wide (n := 10)).1 ?_
 refine callsIn_of_wp_marks Tryd.func103 rfl trivial ?_ rfl
 have hu := Tryd.underlying135
 rw [← lastAt_all]
 simp only [Tryd.ntmps103, List.size_toArray, List.length_cons, List.length_nil, Nat.reduceAdd, Nat.reduceSub, Array.replicate_succ, Array.replicate_zero, List.push_toArray, List.append_toArray, List.nil_append, List.cons_append]
 gi_wp2_with (refine ⟨trivial, ?_⟩; gi_at_call 108; refine (callsIn_wide.2 (rule_edges.calls A0 c0 l0 _)).mono ?_; rintro e w' ⟨rfl, rfl⟩)
 obtain ⟨W1, hW1⟩ : ∃ W1, ((w.alloc (.cells #[.int .i64 2] 55)).alloc (.cells #[.int .i64 0] 3)).alloc (.cells #[.slice A0 l0.length c0] 29) = W1 := ⟨_, rfl⟩
 have hr1 : W1.heap[w.heap.size]? = some (.cells #[.int .i64 2] 55 (0, 0)) := by rw [← hW1]; exact blk_alloc (blk_alloc (blk_new w _) _) _
 have hn1 : W1.heap[w.heap.size + 1]? = some (.cells #[.int .i64 0] 3 (0, 0)) := by
  rw [← hW1]; have := blk_new (w.alloc (.cells #[.int .i64 2] 55)) (.cells #[.int .i64 0] 3); rw [World.size_alloc] at this; exact blk_alloc this _
 have hb1 : W1.heap[w.heap.size + 2]? = some (.cells #[.slice A0 l0.length c0] 29 (0, 0)) := by
  rw [← hW1]; have := blk_new ((w.alloc (.cells #[.int .i64 2] 55)).alloc (.cells #[.int .i64 0] 3)) (.cells #[.slice A0 l0.length c0] 29); rwa [World.size_alloc, World.size_alloc] at this
 have hB1 : Below w.heap.size w W1 := by rw [← hW1]; exact (((Below.refl _ w).alloc (Nat.le_refl _) _).alloc (by simp) _).alloc (by simp; omega) _
 have hs1 : W1.heap.size = w.heap.size + 3 := by rw [← hW1]; simp
 rw [show w.heap.size + 1 + 1 = w.heap.size + 2 from rfl]
 rw [hW1]
 clear hW1
 refine wpIn_rangeFunc_any rfl (by decide) (gf := 114) (lb := #[.pointer (some ⟨w.heap.size + 2, 0, none⟩)]) rfl trivial (enters_of Tryd.func114 (by kernel_rfl) rfl)
  (rule_edges1.any (10 - 1) A0 c0 l0 w hr0 hc0 hlim hL W1 hB1 (w.heap.size + 2) (w.heap.size + 1) hb1 (by omega) (by omega)) KpBut.t
  (fun V l o o' hl ho hc hw => ⟨belowK_b hB1.size V l o o' hl ho hc hw, KeepsWalks.putObj _ ho hw, fun k x _ hk hx => (World.putObj_heap_other hk).trans hx⟩) (Below.refl _ _) (fun _ => rfl)
  (fun pre V => (Below w.heap.size w V ∧ W1.heap.size ≤ V.heap.size) ∧ V.heap[w.heap.size]? = some (.cells #[.int .i64 2] 55 (0, 0)) ∧ V.heap[w.heap.size + 1]? = some (.cells #[.int .i64 (lastAt pre).2.1] 3 (0, 0)))
  (fun s X Y row hs hg hr => ⟨⟨hs.1.1.grown hg hs.1.1.size (fun r e => by have := hr r e; omega), Nat.le_trans hs.1.2 hg.size⟩, blk_grown hs.2.1 hg (fun e => by have := hr _ e.symm; omega), blk_grown hs.2.2 hg (fun e => by have := hr _ e.symm; omega)⟩)
  ⟨⟨hB1, Nat.le_refl _⟩, hr1, hn1⟩
  (fun x a' V => ∃ Bx, W1.heap.size ≤ Bx ∧ V.heap[Bx]? = some (.cells #[.int .i64 0, .int .i64 x.1, .int .i64 x.2.1, .int .i64 x.2.2] 135 (0, 0)) ∧ a' = { tmps := #[.slice A0 l0.length c0, .int .i64 2, undef, .pointer (some ⟨w.heap.size, 0, none⟩), .int .i64 0, .pointer (some ⟨w.heap.size + 1, 0, none⟩), .pointer (some ⟨Bx, 0, none⟩), .slice A0 l0.length c0, .func (.func 114) #[] #[.pointer (some ⟨w.heap.size + 2, 0, none⟩)], .agg #[.int .i64 0, .int .i64 x.1, .int .i64 x.2.1, .int .i64 x.2.2], undef, undef, undef, undef], defers := [] })
  (fun x a' _ X Y row hs hg hr => by obtain ⟨Bx, h1, h2, h3⟩ := hs; exact ⟨Bx, h1, blk_abides h2 hg (fun r e => (hr r e).2), h3⟩)
  ?assign ?body ?done
 case assign =>
  rintro l pre x V K ⟨⟨hB, hsv⟩, hr, hn⟩ hK
  gi_wp2
  exact hK _ _ ((KeepsOthers.alloc _ _).from _) ⟨(Below.refl _ V).alloc hB.size _, (KeepsOthers.alloc _ _).walks, fun k o _ _ h => (Below.heap_alloc _ _ _ (blk_lt h)).trans h⟩ ⟨⟨hB.alloc hB.size _, by simp; omega⟩, blk_alloc hr _, blk_alloc hn _⟩ ⟨V.heap.size, hsv, blk_new V _, rfl⟩
 case body =>
  rintro l pre x a' V ⟨⟨hB, hsv⟩, hr, hn⟩ ⟨Bx, hBx, hbx, rfl⟩
  rw [lastAt_snoc]
  obtain ⟨x1, x2, x3⟩ := x
  dsimp only at hbx ⊢
  have cr := blk_cell hr 0
  have fn0 := blk_frozen hn 0
  have cn0 := blk_cell hn 0
  have cx0 := blk_cell hbx 0
  have cx1 := blk_cell hbx 1
  have cx2 := blk_cell hbx 2
  have cx3 := blk_cell hbx 3
  refine wpIn_mono (Q := SizePost W1.heap.size (w.heap.size + 1) l w.heap.size (fun V2 => (Below w.heap.size w V2 ∧ W1.heap.size ≤ V2.heap.size) ∧ V2.heap[w.heap.size]? = some (.cells #[.int .i64 2] 55 (0, 0)) ∧ V2.heap[w.heap.size + 1]? = some (.cells #[.int .i64 x2] 3 (0, 0))) V) ?walk (fun e _ V2 h => h)
  gi_wp2
  refine ⟨rfl, (KeepsOthers.setCell _ _ _).from _, ⟨(Below.refl _ _).setCell (p := ⟨w.heap.size + 1, 0, none⟩) (Nat.le_succ _) _, KeepsWalks.setCell _ _ _, fun k o hk _ h => (Below.heap_setCell _ _ _ k hk).trans h⟩, ⟨hB.setCell (p := ⟨w.heap.size + 1, 0, none⟩) (Nat.le_succ _) _, by simpa using hsv⟩, blk_far hr (p := ⟨w.heap.size + 1, 0, none⟩) (by simp) _, blk_set hn 0 _⟩
 case done =>
  rintro D zs V hD rfl ⟨⟨hB, hsv⟩, hr, hn⟩ hK
  have cn := blk_cell hn 0
  gi_wp2
  refine ⟨by simp, .inl ⟨_, _, rfl, run_takeDeferred hK, ?_⟩⟩
  exact ⟨_, results_tmp rfl _ _ _, rfl, hB.trans (belowK_b (w := w) (Nat.le_refl _) V D _ _ (by omega) hK rfl rfl)⟩

set_option maxRecDepth 100000 in
set_option maxHeartbeats 4000000 in
theorem rule_size.walk3 (A0 : Option Addr) (c0 : Nat) (l0 : List Int) (w : World) (hr0 : Kd.C (Kd.int .u8) w A0 l0.length l0) (hc0 : l0.length ≤ c0) (hL : LaidBad w) (hlim : l0.length ≤ 4398046511104) :
  Calls Tryd.prog 103 #[.slice A0 l0.length c0, .int .i64 3] w fun e w' => e = .returned (.int .i64 (sizeOf3 l0).2.2) ∧ Below w.heap.size w w' := by
 refine (callsIn_wide (n := 10)).1 ?_
 refine callsIn_of_wp_marks Tryd.func103 rfl trivial ?_ rfl
 have hu := Tryd.underlying135
 rw [← lastAt_all]
 simp only [Tryd.ntmps103, List.size_toArray, List.length_cons, List.length_nil, Nat.reduceAdd, Nat.reduceSub, Array.replicate_succ, Array.replicate_zero, List.push_toArray, List.append_toArray, List.nil_append, List.cons_append]
 gi_wp2_with (refine ⟨trivial, ?_⟩; gi_at_call 108; refine (callsIn_wide.2 (rule_edges.calls A0 c0 l0 _)).mono ?_; rintro e w' ⟨rfl, rfl⟩)
 obtain ⟨W1, hW1⟩ : ∃ W1, ((w.alloc (.cells #[.int .i64 3] 55)).alloc (.cells #[.int .i64 0] 3)).alloc (.cells #[.slice A0 l0.length c0] 29) = W1 := ⟨_, rfl⟩
 have hr1 : W1.heap[w.heap.size]? = some (.cells #[.int .i64 3] 55 (0, 0)) := by rw [← hW1]; exact blk_alloc (blk_alloc (blk_new w _) _) _
 have hn1 : W1.heap[w.heap.size + 1]? = some (.cells #[.int .i64 0] 3 (0, 0)) := by
  rw [← hW1]; have := blk_new (w.alloc (.cells #[.int .i64 3] 55)) (.cells #[.int .i64 0] 3); rw [World.size_alloc] at this; exact blk_alloc this _
 have hb1 : W1.heap[w.heap.size + 2]? = some (.cells #[.slice A0 l0.length c0] 29 (0, 0)) := by
  rw [← hW1]; have := blk_new ((w.alloc (.cells #[.int .i64 3] 55)).alloc (.cells #[.int .i64 0] 3)) (.cells #[.slice A0 l0.length c0] 29); rwa [World.size_alloc, World.size_alloc] at this
 have hB1 : Below w.heap.size w W1 := by rw [← hW1]; exact (((Below.refl _ w).alloc (Nat.le_refl _) _).alloc (by simp) _).alloc (by simp; omega) _
 have hs1 : W1.heap.size = w.heap.size + 3 := by rw [← hW1]; simp
 rw [show w.heap.size + 1 + 1 = w.heap.size + 2 from rfl]
 rw [hW1]
 clear hW1
 refine wpIn_rangeFunc_any rfl (by decide) (gf := 114) (lb := #[.pointer (some ⟨w.heap.size + 2, 0, none⟩)]) rfl trivial (enters_of Tryd.func114 (by kernel_rfl) rfl)
  (rule_edges1.any (10 - 1) A0 c0 l0 w hr0 hc0 hlim hL W1 hB1 (w.heap.size + 2) (w.heap.size + 1) hb1 (by omega) (by omega)) KpBut.t
  (fun V l o o' hl ho hc hw => ⟨belowK_b hB1.size V l o o' hl ho hc hw, KeepsWalks.putObj _ ho hw, fun k x _ hk hx => (World.putObj_heap_other hk).trans hx⟩) (Below.refl _ _) (fun _ => rfl)
  (fun pre V => (Below w.heap.size w V ∧ W1.heap.size ≤ V.heap.size) ∧ V.heap[w.heap.size]? = some (.cells #[.int .i64 3] 55 (0, 0)) ∧ V.heap[w.heap.size + 1]? = some (.cells #[.int .i64 (lastAt pre).2.2] 3 (0, 0)))
  (fun s X Y row hs hg hr => ⟨⟨hs.1.1.grown hg hs.1.1.size (fun r e => by have := hr r e; omega), Nat.le_trans hs.1.2 hg.size⟩, blk_grown hs.2.1 hg (fun e => by have := hr _ e.symm; omega), blk_grown hs.2.2 hg (fun e => by have := hr _ e.symm; omega)⟩)
  ⟨⟨hB1, Nat.le_refl _⟩, hr1, hn1⟩
  (fun x a' V => ∃ Bx, W1.heap.size ≤ Bx ∧ V.heap[Bx]? = some (.cells #[.int .i64 0, .int .i64 x.1, .int .i64 x.2.1, .int .i64 x.2.2] 135 (0, 0)) ∧ a' = { tmps := #[.slice A0 l0.length c0, .int .i64 3, undef, .pointer (some ⟨w.heap.size, 0, none⟩), .int .i64 0, .pointer (some ⟨w.heap.size + 1, 0, none⟩), .pointer (some ⟨Bx, 0, none⟩), .slice A0 l0.length c0, .func (.func 114) #[] #[.pointer (some ⟨w.heap.size + 2, 0, none⟩)], .agg #[.int .i64 0, .int .i64 x.1, .int .i64 x.2.1, .int .i64 x.2.2], undef, undef, undef, undef], defers := [] })
  (fun x a' _ X Y row hs hg hr => by obtain ⟨Bx, h1, h2, h3⟩ := hs; exact ⟨Bx, h1, blk_abides h2 hg (fun r e => (hr r e).2), h3⟩)
  ?assign ?body ?done
 case assign =>
  rintro l pre x V K ⟨⟨hB, hsv⟩, hr, hn⟩ hK
  gi_wp2
  exact hK _ _ ((KeepsOthers.alloc _ _).from _) ⟨(Below.refl _ V).alloc hB.size _, (KeepsOthers.alloc _ _).walks, fun k o _ _ h => (Below.heap_alloc _ _ _ (blk_lt h)).trans h⟩ ⟨⟨hB.alloc hB.size _, by simp; omega⟩, blk_alloc hr _, blk_alloc hn _⟩ ⟨V.heap.size, hsv, blk_new V _, rfl⟩
 case body =>
  rintro l pre x a' V ⟨⟨hB, hsv⟩, hr, hn⟩ ⟨Bx, hBx, hbx, rfl⟩
  rw [lastAt_snoc]
  obtain ⟨x1, x2, x3⟩ := x
  dsimp only at hbx ⊢
  have cr := blk_cell hr 0
  have fn0 := blk_frozen hn 0
  have cn0 := blk_cell hn 0
  have cx0 := blk_cell hbx 0
  have cx1 := blk_cell hbx 1
  have cx2 := blk_cell hbx 2
  have cx3 := blk_cell hbx 3
  refine wpIn_mono (Q := SizePost W1.heap.size (w.heap.size + 1) l w.heap.size (fun V2 => (Below w.heap.size w V2 ∧ W1.heap.size ≤ V2.heap.size) ∧ V2.heap[w.heap.size]? = some (.cells #[.int .i64 3] 55 (0, 0)) ∧ V2.heap[w.heap.size + 1]? = some (.cells #[.int .i64 x3] 3 (0, 0))) V) ?walk (fun e _ V2 h => h)
  gi_wp2
  refine ⟨rfl, (KeepsOthers.setCell _ _ _).from _, ⟨(Below.refl _ _).setCell (p := ⟨w.heap.size + 1, 0, none⟩) (Nat.le_succ _) _, KeepsWalks.setCell _ _ _, fun k o hk _ h => (Below.heap_setCell _ _ _ k hk).trans h⟩, ⟨hB.setCell (p := ⟨w.heap.size + 1, 0, none⟩) (Nat.le_succ _) _, by simpa using hsv⟩, blk_far hr (p := ⟨w.heap.size + 1, 0, none⟩) (by simp) _, blk_set hn 0 _⟩
 case done =>
  rintro D zs V hD rfl ⟨⟨hB, hsv⟩, hr, hn⟩ hK
  have cn := blk_cell hn 0
  gi_wp2
  refine ⟨by simp, .inl ⟨_, _, rfl, run_takeDeferred hK, ?_⟩⟩
  exact ⟨_, results_tmp rfl _ _ _, rfl, hB.trans (belowK_b (w := w) (Nat.le_refl _) V D _ _ (by omega) hK rfl rfl)⟩

theorem rule_size.calls (A0 : Option Addr) (c0 : Nat) (l0 : List Int) (a1 : Int) (r : Int) (w : World) (hr0 : Kd.C (Kd.int .u8) w A0 l0.length l0) (hc0 : l0.length ≤ c0) (hL : LaidBad w) (h : rule_size.f l0 a1 = some r) :
  Calls Tryd.prog 103 #[.slice A0 l0.length c0, .int .i64 a1] w fun e w' => e = .returned (.int .i64 r) ∧ Below w.heap.size w w' := by
 unfold rule_size.f at h
 by_cases hl : l0.length ≤ 4398046511104
 ·rw [if_pos hl] at h
  by_cases h2 : a1 = 2
  ·rw [if_pos h2] at h
   subst h2
   cases h
   exact rule_size.walk2 A0 c0 l0 w hr0 hc0 hL hl
  ·rw [if_neg h2] at h
   by_cases h3 : a1 = 3
   ·rw [if_pos h3] at h
    subst h3
    cases h
    exact rule_size.walk3 A0 c0 l0 w hr0 hc0 hL hl
   ·rw [if_neg h3] at h
    cases h
 ·rw [if_neg hl] at h
  cases h

end Go.Proofs.YtijbkiajhicooaaDoor.PW

namespace Go.Proofs.YtijbkiajhicooaaDoor.PW
open Go.RowKit Go.Proofs.YtijbkiajhicooaaDoorW.PrintWords Go.Proofs.YtijbkiajhicooaaDoorW.PrintLast Go.Proofs.YtijbkiajhicooaaDoorW.PrintMore
attribute [local go_sem] max2_int min2_int max_two min_two max_three min_three max_four min_four   -- for this text's walks alone
set_option linter.unusedVariables false
set_option linter.unusedSimpArgs false

def rule_Size.f (l0 : List Int) (a1 : Int) : Option (Int × Int) := (rule_ruler.f a1).bind fun t144 => (if t144 = true then ((rule_size.f l0 a1).bind fun t145 => (some (t145, 0))) else (some (0, 3)))
set_option maxHeartbeats 8000000 in
set_option maxRecDepth 100000 in
theorem rule_Size.calls (A0 : Option Addr) (c0 : Nat) (l0 : List Int) (a1 : Int) (r1 : Int) (r2 : Int) (w : World) (hr0 : Kd.C (Kd.int .u8) w A0 l0.length l0) (hc0 : l0.length ≤ c0) (hL : LaidBad w) (h : rule_Size.f l0 a1 = some (r1, r2)) :
  Calls Tryd.prog 84 #[.slice A0 l0.length c0, .int .i64 a1] w fun e w' => e = .returned (.tuple #[.int .i64 r1, .int .i64 r2]) ∧ Below w.heap.size w w' := by
 have HR0 := Aside0.mk hr0
 have HC0 := Aside0.mk hc0
 clear hr0 hc0
 have HB := Aside0.mk (Below.refl w.heap.size w)
 have HLB := Aside0.mk hL
 clear hL
 have H : ((rule_ruler.f a1).bind fun t144 => (if t144 = true then ((rule_size.f l0 a1).bind fun t145 => (some (t145, 0))) else (some (0, 3)))) = some (r1, r2) := h
 clear h
 replace H := Option.bind_eq_some_iff.mp H
 obtain ⟨t144, A30, H⟩ := H
 replace H : (if t144 = true then ((rule_size.f l0 a1).bind fun t145 => (some (t145, 0))) else (some (0, 3))) = some (r1, r2) := H
 have A3 := Aside0.mk A30
 clear A30
 by_cases c4 : t144 = true
 ·subst c4
  have H1 : ((rule_size.f l0 a1).bind fun t145 => (some (t145, 0))) = some (r1, r2) := by rw [if_pos rfl] at H; exact H
  clear H
  have H := H1
  clear H1
  replace H := Option.bind_eq_some_iff.mp H
  obtain ⟨t145, A50, H⟩ := H
  replace H : (some (t145, 0)) = some (r1, r2) := H
  have A5 := Aside0.mk A50
  clear A50
  simp only [Option.some.injEq, Prod.mk.injEq] at H
  obtain ⟨rfl, rfl⟩ := H
  go_enter Tryd.func84, Tryd.ntmps84
  go_wp2_with (first | ((with_reducible refine gate_callee (f := 90) rfl ?_); refine goesL_ (some 7) rfl rfl Tryd.func90 (by kernel_rfl) rfl #[.int .i64 a1] rfl (by (try simp only [List.map_toArray, List.map_cons, List.map_nil]); first | done | rfl | (simp only [List.length_drop, List.length_take]; rfl)) ?_; (with_reducible refine (rule_ruler.calls a1 true _ A3.out).mono ?_); rintro e w' ⟨rfl, ⟨nd, rfl⟩⟩; refine ⟨_, rfl, ?_⟩) | ((with_reducible refine gate_callee (f := 103) rfl ?_); refine goesL_ (some 11) rfl rfl Tryd.func103 (by kernel_rfl) rfl #[.slice A0 l0.length c0, .int .i64 a1] rfl (by (try simp only [List.map_toArray, List.map_cons, List.map_nil]); first | done | rfl | (simp only [List.length_drop, List.length_take]; rfl)) ?_; (with_reducible refine (rule_size.calls _ _ l0 a1 t145 _ ?side1 ?side2 ?side3 A5.out).mono ?_); (case side1 => repeat (first | exact HR0.out | (with_reducible refine Kd.C_alloc ?_ _) | (with_reducible refine Kd.C_drewN ?_ _) | (with_reducible refine Kd.C_drew ?_))); (case side2 => exact HC0.out); (case side3 => exact laid_below HLB.out (by repeat (first | (with_reducible first | exact HB.out | apply below_alloc | apply pw_below_drewN | apply below_drew1) | exact HB.out))); rintro e w6 ⟨rfl, hb⟩; refine ⟨_, rfl, ?_⟩; have n0_ := Aside0.mk (below_step (by repeat (first | (with_reducible first | exact HB.out | apply below_alloc | apply pw_below_drewN | apply below_drew1) | exact HB.out)) hb); clear HB; have HB := n0_; clear n0_; (try clear hb); (try clear hb2); (try clear hk); (try clear hi)))
  go_ret2
  exact ⟨by first | rfl | (simp [errW_none, errW_some] <;> rfl) | (simp [*, errW_none, errW_some] <;> rfl), by repeat (first | (with_reducible first | exact HB.out | apply below_alloc | apply pw_below_drewN | apply below_drew1) | exact HB.out)⟩
 ·replace c4 := Bool.eq_false_iff.mpr c4
  subst c4
  have H1 : (some (0, 3)) = some (r1, r2) := by rw [if_neg (show ¬ (false = true) by decide)] at H; exact H
  clear H
  have H := H1
  clear H1
  simp only [Option.some.injEq, Prod.mk.injEq] at H
  obtain ⟨rfl, rfl⟩ := H
  go_enter Tryd.func84, Tryd.ntmps84
  go_wp2_with (first | ((with_reducible refine gate_callee (f := 90) rfl ?_); refine goesL_ (some 7) rfl rfl Tryd.func90 (by kernel_rfl) rfl #[.int .i64 a1] rfl (by (try simp only [List.map_toArray, List.map_cons, List.map_nil]); first | done | rfl | (simp only [List.length_drop, List.length_take]; rfl)) ?_; (with_reducible refine (rule_ruler.calls a1 false _ A3.out).mono ?_); rintro e w' ⟨rfl, ⟨nd, rfl⟩⟩; refine ⟨_, rfl, ?_⟩))
  go_ret2
  exact ⟨by first | rfl | (simp [errW_none, errW_some] <;> rfl) | (simp [*, errW_none, errW_some] <;> rfl), by repeat (first | (with_reducible first | exact HB.out | apply below_alloc | apply pw_below_drewN | apply below_drew1) | exact HB.out)⟩

end Go.Proofs.YtijbkiajhicooaaDoor.PW

namespace Go.Proofs.YtijbkiajhicooaaDoor.PW
open Go.RowKit Go.Proofs.YtijbkiajhicooaaDoorW.PrintWords Go.Proofs.YtijbkiajhicooaaDoorW.PrintLast Go.Proofs.YtijbkiajhicooaaDoorW.PrintMore
attribute [local go_sem] max2_int min2_int max_two min_two max_three min_three max_four min_four   -- for this text's walks alone
set_option linter.unusedVariables false
set_option linter.unusedSimpArgs false

def lines_size.f (l0 : List Int) (a1 : Int) : Option (Int) := (rule_Size.f l0 a1).bind fun bt146 => (some bt146.1)
set_option maxHeartbeats 8000000 in
set_option maxRecDepth 100000 in
theorem lines_size.calls (A0 : Option Addr) (c0 : Nat) (l0 : List Int) (a1 : Int) (r : Int) (w : World) (hr0 : Kd.C (Kd.int .u8) w A0 l0.length l0) (hc0 : l0.length ≤ c0) (hL : LaidBad w) (h : lines_size.f l0 a1 = some r) :
  Calls Tryd.prog 71 #[.slice A0 l0.length c0, .int .i64 a1] w fun e w' => e = .returned (.int .i64 r) ∧ Below w.heap.size w w' := by
 have HR0 := Aside0.mk hr0
 have HC0 := Aside0.mk hc0
 clear hr0 hc0
 have HB := Aside0.mk (Below.refl w.heap.size w)
 have HLB := Aside0.mk hL
 clear hL
 have H : ((rule_Size.f l0 a1).bind fun bt146 => (some bt146.1)) = some r := h
 clear h
 replace H := Option.bind_eq_some_iff.mp H
 obtain ⟨⟨t146, t147⟩, A30, H⟩ := H
 replace H : (some t146) = some r := H
 have A3 := Aside0.mk A30
 clear A30
 obtain rfl := Option.some.inj H
 go_enter Tryd.func71, Tryd.ntmps71
 go_wp2_with (first | ((with_reducible refine gate_callee (f := 84) rfl ?_); refine goesL_ (some 10) rfl rfl Tryd.func84 (by kernel_rfl) rfl #[.slice A0 l0.length c0, .int .i64 a1] rfl (by (try simp only [List.map_toArray, List.map_cons, List.map_nil]); first | done | rfl | (simp only [List.length_drop, List.length_take]; rfl)) ?_; (with_reducible refine (rule_Size.calls _ _ l0 a1 t146 t147 _ ?side1 ?side2 ?side3 A3.out).mono ?_); (case side1 => repeat (first | exact HR0.out | (with_reducible refine Kd.C_alloc ?_ _) | (with_reducible refine Kd.C_drewN ?_ _) | (with_reducible refine Kd.C_drew ?_))); (case side2 => exact HC0.out); (case side3 => exact laid_below HLB.out (by repeat (first | (with_reducible first | exact HB.out | apply below_alloc | apply pw_below_drewN | apply below_drew1) | exact HB.out))); rintro e w4 ⟨rfl, hb⟩; refine ⟨_, rfl, ?_⟩; have n0_ := Aside0.mk (below_step (by repeat (first | (with_reducible first | exact HB.out | apply below_alloc | apply pw_below_drewN | apply below_drew1) | exact HB.out)) hb); clear HB; have HB := n0_; clear n0_; (try clear hb); (try clear hb2); (try clear hk); (try clear hi)))
 go_ret
 exact ⟨by first | rfl | (simp [errW_none, errW_some] <;> rfl) | (simp [*, errW_none, errW_some] <;> rfl), by repeat (first | (with_reducible first | exact HB.out | apply below_alloc | apply pw_below_drewN | apply below_drew1) | exact HB.out)⟩

end Go.Proofs.YtijbkiajhicooaaDoor.PW

namespace Go.Proofs.YtijbkiajhicooaaDoor.PW
open Go.RowKit Go.Proofs.YtijbkiajhicooaaDoorW.PrintWords Go.Proofs.YtijbkiajhicooaaDoorW.PrintLast Go.Proofs.YtijbkiajhicooaaDoorW.PrintMore
attribute [local go_sem] max2_int min2_int max_two min_two max_three min_three max_four min_four   -- for this text's walks alone
set_option linter.unusedVariables false
set_option linter.unusedSimpArgs false

def lines_Where.f (k : Nat) (l0 : List Int) (a1 : Int) : Option (Int × Int × Int × Int × Int × Int × Int × Int) := (step_Floor.f k l0 a1).bind fun bt149 => (if bt149.2 = 0 then ((lines_all.f l0).bind fun t151 => ((lines_holds.f k t151 bt149.1).bind fun t154 => (if 0 ≤ bt149.1 then (if bt149.1 ≤ (l0.length : Int) then (if 0 ≤ t154 then (if t154 < (t151.length : Int) then (if 0 ≤ ((rd_T127 t151 t154).f0) then (if ((rd_T127 t151 t154).f0) ≤ bt149.1 then ((lines_size.f (l0.take (bt149.1 : Int).toNat) 2).bind fun t158 => ((lines_size.f (l0.take (bt149.1 : Int).toNat) 3).bind fun t159 => ((lines_size.f ((l0.take (bt149.1 : Int).toNat).drop (((rd_T127 t151 t154).f0) : Int).toNat) 2).bind fun t160 => ((lines_size.f ((l0.take (bt149.1 : Int).toNat).drop (((rd_T127 t151 t154).f0) : Int).toNat) 3).bind fun t161 => (some (bt149.1, t158, t159, t154, (((l0.take (bt149.1 : Int).toNat).drop (((rd_T127 t151 t154).f0) : Int).toNat).length : Int), t160, t161, 0)))))) else (none)) else (none)) else (none)) else (none)) else (none)) else (none)))) else (some (0, 0, 0, 0, 0, 0, 0, bt149.2)))
set_option maxHeartbeats 8000000 in
set_option maxRecDepth 100000 in
theorem lines_Where.calls (k : Nat) (A0 : Option Addr) (c0 : Nat) (l0 : List Int) (a1 : Int) (r1 : Int) (r2 : Int) (r3 : Int) (r4 : Int) (r5 : Int) (r6 : Int) (r7 : Int) (r8 : Int) (w : World) (hr0 : Kd.C (Kd.int .u8) w A0 l0.length l0) (hc0 : l0.length ≤ c0) (hL : LaidBad w) (h : lines_Where.f k l0 a1 = some (r1, r2, r3, r4, r5, r6, r7, r8)) :
  Calls Tryd.prog 45 #[.slice A0 l0.length c0, .int .i64 a1] w fun e w' => e = .returned (.tuple #[.agg #[.int .i64 r1, .int .i64 r2, .int .i64 r3, .int .i64 r4, .int .i64 r5, .int .i64 r6, .int .i64 r7], .int .i64 r8]) ∧ Below w.heap.size w w' := by
 have HR := Aside0.mk hr0
 have HC := Aside0.mk hc0
 have HLW := Aside0.mk hL
 unfold lines_Where.f at h
 obtain ⟨⟨p, e⟩, hfl, h⟩ := Option.bind_eq_some_iff.mp h
 dsimp only at h
 have hu := Tryd.underlying87
 have hu2 := Tryd.underlying127
 have hb1 : Below w.heap.size w (w.alloc (.cells #[.int .i64 0, .int .i64 0, .int .i64 0, .int .i64 0, .int .i64 0, .int .i64 0, .int .i64 0] 87)) := below_alloc (Below.refl _ _) _
 have hL1 := laid_below hL hb1
 have hg1 := blk_new w (.cells #[.int .i64 0, .int .i64 0, .int .i64 0, .int .i64 0, .int .i64 0, .int .i64 0, .int .i64 0] 87)
 have hr1 := Kd.C_below hr0 hb1
 have HF := Aside0.mk hfl
 have HG := Aside0.mk hg1
 have HB := Aside0.mk hb1
 have HR1 := Aside0.mk hr1
 have HL := Aside0.mk hL1
 clear hr0 hc0 hfl hg1 hb1 hr1 hL hL1
 by_cases he : e = 0
 ·rw [if_pos he] at h
  subst he
  obtain ⟨ls, hall, h⟩ := Option.bind_eq_some_iff.mp h
  obtain ⟨kk, hholds, h⟩ := Option.bind_eq_some_iff.mp h
  by_cases g0 : 0 ≤ p
  ·rw [if_pos g0] at h
   by_cases g1 : p ≤ (l0.length : Int)
   ·rw [if_pos g1] at h
    by_cases g2 : 0 ≤ kk
    ·rw [if_pos g2] at h
     by_cases g3 : kk < (ls.length : Int)
     ·rw [if_pos g3] at h
      by_cases g4 : 0 ≤ (rd_T127 ls kk).f0
      ·rw [if_pos g4] at h
       by_cases g5 : (rd_T127 ls kk).f0 ≤ p
       ·rw [if_pos g5] at h
        obtain ⟨s1, hs1, h⟩ := Option.bind_eq_some_iff.mp h
        obtain ⟨s2, hs2, h⟩ := Option.bind_eq_some_iff.mp h
        obtain ⟨s3, hs3, h⟩ := Option.bind_eq_some_iff.mp h
        obtain ⟨s4, hs4, h⟩ := Option.bind_eq_some_iff.mp h
        simp only [Option.some.injEq, Prod.mk.injEq] at h
        obtain ⟨rfl, rfl, rfl, rfl, rfl, rfl, rfl, rfl⟩ := h
        obtain ⟨i0, hi0, _, hsz0, _⟩ := info_parts info5
        obtain ⟨hcutA, hA, hCA⟩ := print_take_of (P := Tryd.prog) (Value.int .u8) 0 29 5 .i64 Tryd.underlying29 hi0 hsz0 A0 c0 l0 p g0 g1 HC.out
        obtain ⟨A9, hcutB, hB, hCB⟩ := print_mid_of (P := Tryd.prog) (Value.int .u8) 0 29 5 .i64 .i64 Tryd.underlying29 hi0 hsz0 A0 c0 l0 (rd_T127 ls kk).f0 p g4 g5 g1 HC.out
        have HRA := Aside0.mk (Kd.C_of_reads (h1 := fun _ => rfl) (hA _ (Kd.reads_of_C HR.out)))
        have HRB := Aside0.mk (Kd.C_of_reads (h1 := fun _ => rfl) (hB _ (Kd.reads_of_C HR.out)))
        have HCA := Aside0.mk hCA
        have HCB := Aside0.mk hCB
        have S1 := Aside0.mk hs1
        have S2 := Aside0.mk hs2
        have S3 := Aside0.mk hs3
        have S4 := Aside0.mk hs4
        have HALL := Aside0.mk hall
        have HHO := Aside0.mk hholds
        have G2 := Aside0.mk g2
        have G3 := Aside0.mk g3
        clear hA hB hCA hCB hs1 hs2 hs3 hs4 hi0 hsz0 hall hholds
        generalize hta : l0.take p.toNat = la at *
        generalize htb : la.drop (rd_T127 ls kk).f0.toNat = lb at *
        clear hta htb
        replace g0 := eq_true g0
        replace g1 := eq_true g1
        replace g2 := eq_true g2
        replace g3 := eq_true g3
        replace g4 := eq_true g4
        replace g5 := eq_true g5
        go_enter Tryd.func45, Tryd.ntmps45
        go_wp2_with fail
        refine (step_Floor.calls k _ _ l0 a1 p 0 _ HR1.out HC.out HL.out HF.out).mono ?_
        rintro e w2 ⟨rfl, hb2⟩
        have HB2 := Aside0.mk (below_step HB.out hb2)
        have HR2 := Aside0.mk (Kd.C_below HR1.out hb2)
        have HG2 := Aside0.mk (blk_below HG.out hb2)
        clear hb2
        go_wp2_with fail
        refine (lines_all.calls _ _ l0 ls _ HR2.out HC.out HALL.out).mono ?_
        rintro e w3 ⟨vl, rfl, hv, hb3⟩
        have HB3 := Aside0.mk (below_step HB2.out hb3)
        have HG3 := Aside0.mk (blk_below HG2.out hb3)
        clear hb3
        obtain ⟨Al, cl, rfl⟩ := Kd.R_slice hv
        have HV := Aside0.mk hv
        clear hv
        go_wp2_with fail
        refine (lines_holds.calls k _ _ ls p kk _ (Kd.R_reads' HV.out).2.2 (Kd.R_reads' HV.out).2.1 HHO.out).mono ?_
        rintro e w4 ⟨rfl, hw4⟩
        obtain ⟨n4, rfl⟩ := hw4.out
        clear hw4
        obtain ⟨ad, hAd, e0, e1, e2, e3⟩ := at_T127 (Kd.R_reads' HV.out).2.2 kk G2.out G3.out
        cases hAd
        go_wp2
        go_quiet (fail)
        go_wp2_with fail
        refine (lines_size.calls _ _ la 2 s1 _ (Kd.C_below HRA.out (pw_below_drewN HB3.out _)) HCA.out (laid_below HLW.out (pw_below_drewN HB3.out _)) S1.out).mono ?_
        rintro e w5 ⟨rfl, hb5⟩
        have HB5 := Aside0.mk (below_step (pw_below_drewN HB3.out _) hb5)
        have HG5 := Aside0.mk (blk_below (blk_drewN HG3.out _) hb5)
        clear hb5
        go_wp2_with fail
        refine (lines_size.calls _ _ la 3 s2 _ (Kd.C_below HRA.out HB5.out) HCA.out (laid_below HLW.out HB5.out) S2.out).mono ?_
        rintro e w6 ⟨rfl, hb6⟩
        have HB6 := Aside0.mk (below_step HB5.out hb6)
        have HG6 := Aside0.mk (blk_below HG5.out hb6)
        clear hb6
        go_wp2_with fail
        refine (lines_size.calls _ _ lb 2 s3 _ (Kd.C_below HRB.out HB6.out) HCB.out (laid_below HLW.out HB6.out) S3.out).mono ?_
        rintro e w7 ⟨rfl, hb7⟩
        have HB7 := Aside0.mk (below_step HB6.out hb7)
        have HG7 := Aside0.mk (blk_below HG6.out hb7)
        clear hb7
        go_wp2_with fail
        refine (lines_size.calls _ _ lb 3 s4 _ (Kd.C_below HRB.out HB7.out) HCB.out (laid_below HLW.out HB7.out) S4.out).mono ?_
        rintro e w8 ⟨rfl, hb8⟩
        have HB8 := Aside0.mk (below_step HB7.out hb8)
        have HG8 := Aside0.mk (blk_below HG7.out hb8)
        clear hb8
        have cz0 := blk_cell HG8.out 0
        have fz0 := blk_frozen HG8.out 0
        have cz1 := blk_cell HG8.out 1
        have fz1 := blk_frozen HG8.out 1
        have cz2 := blk_cell HG8.out 2
        have fz2 := blk_frozen HG8.out 2
        have cz3 := blk_cell HG8.out 3
        have fz3 := blk_frozen HG8.out 3
        have cz4 := blk_cell HG8.out 4
        have fz4 := blk_frozen HG8.out 4
        have cz5 := blk_cell HG8.out 5
        have fz5 := blk_frozen HG8.out 5
        have cz6 := blk_cell HG8.out 6
        have fz6 := blk_frozen HG8.out 6
        go_wp2
        refine bodyPost_ret (results_ct rfl _ _ w.heap.size 87 #[.int .i64 p, .int .i64 s1, .int .i64 s2, .int .i64 kk, .int .i64 (lb.length : Int), .int .i64 s3, .int .i64 s4] (0, 0) _ rfl (blk_put7 _ _ _ _ _ _ _ HG8.out) Tryd.underlying87 rfl (by kernel_rfl)) rfl ?_
        exact ⟨rfl, below_put7 HB8.out (Nat.le_refl _) _ _ _ _ _ _ _⟩
       ·rw [if_neg g5] at h
        cases h
      ·rw [if_neg g4] at h
       cases h
     ·rw [if_neg g3] at h
      cases h
    ·rw [if_neg g2] at h
     cases h
   ·rw [if_neg g1] at h
    cases h
  ·rw [if_neg g0] at h
   cases h
 ·rw [if_neg he] at h
  simp only [Option.some.injEq, Prod.mk.injEq] at h
  obtain ⟨rfl, rfl, rfl, rfl, rfl, rfl, rfl, rfl⟩ := h
  have heb : (e != 0) = true := by simpa using he
  have heb2 : (e == 0) = false := by simpa using he
  clear he
  go_enter Tryd.func45, Tryd.ntmps45
  go_wp2_with fail
  refine (step_Floor.calls k _ _ l0 a1 p e _ HR1.out HC.out HL.out HF.out).mono ?_
  rintro e2 w2 ⟨rfl, hb2⟩
  have HG2 := Aside0.mk (blk_below HG.out hb2)
  have HB2 := Aside0.mk (below_step HB.out hb2)
  have cz0 := blk_cell HG2.out 0
  have fz0 := blk_frozen HG2.out 0
  have cz1 := blk_cell HG2.out 1
  have fz1 := blk_frozen HG2.out 1
  have cz2 := blk_cell HG2.out 2
  have fz2 := blk_frozen HG2.out 2
  have cz3 := blk_cell HG2.out 3
  have fz3 := blk_frozen HG2.out 3
  have cz4 := blk_cell HG2.out 4
  have fz4 := blk_frozen HG2.out 4
  have cz5 := blk_cell HG2.out 5
  have fz5 := blk_frozen HG2.out 5
  have cz6 := blk_cell HG2.out 6
  have fz6 := blk_frozen HG2.out 6
  clear hb2
  go_wp2
  refine bodyPost_ret (results_ct rfl _ _ w.heap.size 87 #[.int .i64 0, .int .i64 0, .int .i64 0, .int .i64 0, .int .i64 0, .int .i64 0, .int .i64 0] (0, 0) _ rfl (blk_put7 _ _ _ _ _ _ _ HG2.out) Tryd.underlying87 rfl (by kernel_rfl)) rfl ?_
  exact ⟨rfl, below_put7 HB2.out (Nat.le_refl _) _ _ _ _ _ _ _⟩

end Go.Proofs.YtijbkiajhicooaaDoor.PW

namespace Go.Proofs.YtijbkiajhicooaaDoor.PW
open Go.RowKit Go.Proofs.YtijbkiajhicooaaDoorW.PrintWords Go.Proofs.YtijbkiajhicooaaDoorW.PrintLast Go.Proofs.YtijbkiajhicooaaDoorW.PrintMore
attribute [local go_sem] max2_int min2_int max_two min_two max_three min_three max_four min_four   -- for this text's walks alone
set_option linter.unusedVariables false
set_option linter.unusedSimpArgs false

/-- One more step to the right. -/
def colStep (w : Int) (n : Int) (x : PStep) : Int := if x.2.2.2 = true ∧ x.2.1 = 9 then wrap64 (wrap64 (wrap64 (n.tdiv w) + 1) * w) else wrap64 (n + 1)
def colOf (w : Int) (l : List Int) : Int := (allSteps (strOfNums l)).foldl (colStep w) 0
def words_Column.f (l0 : List Int) (a1 a2 : Int) : Option (Int × Int) :=
 (words_outside.f l0 a1).bind fun o => if o = true then some (0, 2) else if a2 < 1 then some (0, 2) else if a2 > 65536 then some (0, 2) else
  (lines_Where.f (l0.length + 10) l0 a1).bind fun x => if x.2.2.2.2.2.2.2 = 0 then
   (lines_Line.f l0 x.2.2.2.1).bind fun y => if 0 ≤ y.1 then if y.1 ≤ mn x.1 y.2.1 then if mn x.1 y.2.1 ≤ (l0.length : Int) then if l0.length ≤ 4398046511104 then
    some (colOf a2 ((l0.take (mn x.1 y.2.1).toNat).drop y.1.toNat), 0) else none else none else none else none
  else some (0, x.2.2.2.2.2.2.2)
attribute [local go_sem] Oper.semAt_some
set_option maxRecDepth 100000 in
set_option maxHeartbeats 4000000 in
theorem words_Column.bad (A0 : Option Addr) (c0 : Nat) (l0 : List Int) (a1 a2 : Int) (o : Bool) (w : World) (hr0 : Kd.C (Kd.int .u8) w A0 l0.length l0) (hc0 : l0.length ≤ c0) (ho : words_outside.f l0 a1 = some o) (h : o = true ∨ a2 < 1 ∨ a2 > 65536) :
  Calls Tryd.prog 26 #[.slice A0 l0.length c0, .int .i64 a1, .int .i64 a2] w fun e w' => e = .returned (.tuple #[.int .i64 0, .int .i64 2]) ∧ Below w.heap.size w w' := by
 have HR := Aside0.mk (Kd.C_alloc hr0 (.cells #[.int .i64 a2] 3))
 have HO := Aside0.mk ho
 have hB : Below w.heap.size w (w.alloc (.cells #[.int .i64 a2] 3)) := (Below.refl _ w).alloc (Nat.le_refl _) _
 clear hr0 ho
 cases o with
 | true =>
  go_enter Tryd.func26, Tryd.ntmps26
  go_wp2_with (go_at_call 44; refine (words_outside.calls A0 c0 l0 a1 true _ HR.out hc0 HO.out).mono ?_; rintro e w' ⟨rfl, ⟨nd, rfl⟩⟩)
  go_ret2
  exact ⟨rfl, pw_below_drewN hB _⟩
 | false =>
  simp only [Bool.false_eq_true, false_or] at h
  by_cases h1 : a2 < 1
  ·have hb : decide (a2 < 1) = true := decide_eq_true h1
   clear h
   go_enter Tryd.func26, Tryd.ntmps26
   go_wp2_with (go_at_call 44; refine (words_outside.calls A0 c0 l0 a1 false _ HR.out hc0 HO.out).mono ?_; rintro e w' ⟨rfl, ⟨nd, rfl⟩⟩)
   go_ret2
   exact ⟨rfl, pw_below_drewN hB _⟩
  ·have hb : decide (a2 < 1) = false := decide_eq_false h1
   have hb2 : decide (a2 > 65536) = true := decide_eq_true (by omega)
   have hb3 : decide (65536 < a2) = true := decide_eq_true (by omega)
   clear h
   go_enter Tryd.func26, Tryd.ntmps26
   go_wp2_with (go_at_call 44; refine (words_outside.calls A0 c0 l0 a1 false _ HR.out hc0 HO.out).mono ?_; rintro e w' ⟨rfl, ⟨nd, rfl⟩⟩)
   go_ret2
   exact ⟨rfl, pw_below_drewN hB _⟩
/-- How a round of the loop is left. -/
def ColPost (B : Nat) (Kp : World → World → Prop) (I : World → Prop) (W : World) : Exit → Act → World → Prop := fun e _ W2 => e = .normal ∧ KeepsFrom B W W2 ∧ Kp W W2 ∧ I W2
theorem colPost_of (w : World) (B Bs g : Nat) (s : ByteArray) (a2 nn v : Int) (V X : World) (a' : Act) (hX : KeepsOthers V X) (hbX : Below w.heap.size V X) (hB : Below w.heap.size w V) (hs : V.heap[Bs]? = some (.cells #[.string s] 9 (0, 0))) (hw : V.heap[w.heap.size]? = some (.cells #[.int .i64 a2] 3 (0, 0)))
  (hn : V.heap[g]? = some (.cells #[.int .i64 nn] 3 (0, 0))) (hh : X.heap = V.heap) (hne : Bs ≠ g) (hne2 : w.heap.size ≠ g) (hg : w.heap.size ≤ g) :
  ColPost B (KpBox w.heap.size Bs) (fun V2 => (Below w.heap.size w V2 ∧ V2.heap[Bs]? = some (.cells #[.string s] 9 (0, 0))) ∧ V2.heap[w.heap.size]? = some (.cells #[.int .i64 a2] 3 (0, 0)) ∧ V2.heap[g]? = some (.cells #[.int .i64 v] 3 (0, 0))) V .normal a' (X.setCell ⟨g, 0, none⟩ (.int .i64 v)) := by
 have hs' : X.heap[Bs]? = some (.cells #[.string s] 9 (0, 0)) := by rw [hh]; exact hs
 have hw' : X.heap[w.heap.size]? = some (.cells #[.int .i64 a2] 3 (0, 0)) := by rw [hh]; exact hw
 have hn' : X.heap[g]? = some (.cells #[.int .i64 nn] 3 (0, 0)) := by rw [hh]; exact hn
 have hk : KeepsOthers V (X.setCell ⟨g, 0, none⟩ (.int .i64 v)) := hX.trans (KeepsOthers.setCell _ _ _)
 have hb := hbX.setCell (p := ⟨g, 0, none⟩) hg (.int .i64 v)
 have hs2 := blk_far hs' (p := ⟨g, 0, none⟩) hne (.int .i64 v)
 exact ⟨rfl, hk.from _, KpBox.of hb (hs2.trans hs.symm) hk, ⟨hB.trans hb, hs2⟩, blk_far hw' (p := ⟨g, 0, none⟩) hne2 _, blk_set hn' 0 _⟩
set_option maxRecDepth 100000 in
set_option maxHeartbeats 4000000 in
theorem words_Column.err (A0 : Option Addr) (c0 : Nat) (l0 : List Int) (a1 a2 : Int) (r1 r2 r3 r4 r5 r6 r7 r8 : Int) (w : World) (hr0 : Kd.C (Kd.int .u8) w A0 l0.length l0) (hc0 : l0.length ≤ c0) (hL : LaidBad w) (ho : words_outside.f l0 a1 = some false) (h1 : 1 ≤ a2) (h2 : a2 ≤ 65536)
  (hw : lines_Where.f (l0.length + 10) l0 a1 = some (r1, r2, r3, r4, r5, r6, r7, r8)) (he : r8 ≠ 0) :
  Calls Tryd.prog 26 #[.slice A0 l0.length c0, .int .i64 a1, .int .i64 a2] w fun e w' => e = .returned (.tuple #[.int .i64 0, .int .i64 r8]) ∧ Below w.heap.size w w' := by
 have HR := Aside0.mk (Kd.C_alloc hr0 (.cells #[.int .i64 a2] 3))
 have HO := Aside0.mk ho
 have HW := Aside0.mk hw
 have hB : Below w.heap.size w (w.alloc (.cells #[.int .i64 a2] 3)) := (Below.refl _ w).alloc (Nat.le_refl _) _
 have HL := Aside0.mk (laid_below hL hB)
 have hb : decide (a2 < 1) = false := decide_eq_false (by omega)
 have hb2 : decide (a2 > 65536) = false := decide_eq_false (by omega)
 have hb3 : decide (65536 < a2) = false := decide_eq_false (by omega)
 have heb : (r8 != 0) = true := by simpa using he
 clear hr0 ho hw he hL
 go_enter Tryd.func26, Tryd.ntmps26
 go_wp2_with (go_at_call 44; refine (words_outside.calls A0 c0 l0 a1 false _ HR.out hc0 HO.out).mono ?_; rintro e w' ⟨rfl, ⟨nd, rfl⟩⟩)
 refine (lines_Where.calls _ A0 c0 l0 a1 r1 r2 r3 r4 r5 r6 r7 r8 _ (Kd.C_drewN HR.out _) hc0 (laid_below HL.out (pw_below_drewN (Below.refl _ _) _)) HW.out).mono ?_
 rintro e w' ⟨rfl, hb5⟩
 have hu := Tryd.underlying87
 go_wp2
 go_ret2
 exact ⟨rfl, ((pw_below_drewN hB nd).trans (hb5.mono (pw_below_drewN hB nd).size)).alloc (by have := hb5.size; simp at this; omega) _⟩
set_option maxRecDepth 100000 in
set_option maxHeartbeats 4000000 in
theorem words_Column.walk (A0 : Option Addr) (c0 : Nat) (l0 : List Int) (a1 a2 : Int) (p r2 r3 ln r5 r6 r7 s ct y3 y4 : Int) (w : World) (hr0 : Kd.C (Kd.int .u8) w A0 l0.length l0) (hc0 : l0.length ≤ c0) (hL : LaidBad w) (ho : words_outside.f l0 a1 = some false) (h1 : 1 ≤ a2) (h2 : a2 ≤ 65536)
  (hw : lines_Where.f (l0.length + 10) l0 a1 = some (p, r2, r3, ln, r5, r6, r7, 0)) (hl : lines_Line.f l0 ln = some (s, ct, y3, y4)) (m : Int) (hm : mn p ct = m) (g0 : 0 ≤ s) (g1 : s ≤ m) (g2 : m ≤ (l0.length : Int)) (hlim : l0.length ≤ 4398046511104) :
  CallsIn Fence.wide 10 Tryd.prog 26 #[.slice A0 l0.length c0, .int .i64 a1, .int .i64 a2] w fun e w' => e = .returned (.tuple #[.int .i64 (colOf a2 ((l0.take m.toNat).drop s.toNat)), .int .i64 0]) ∧ Below w.heap.size w w' := by
 refine callsIn_of_wp_marks Tryd.func26 rfl trivial ?_ rfl
 have hu := Tryd.underlying87
 have HR := Aside0.mk (Kd.C_alloc hr0 (.cells #[.int .i64 a2] 3))
 have HR0 := Aside0.mk hr0
 have HO := Aside0.mk ho
 have HW := Aside0.mk hw
 have HLN := Aside0.mk hl
 have hB : Below w.heap.size w (w.alloc (.cells #[.int .i64 a2] 3)) := (Below.refl _ w).alloc (Nat.le_refl _) _
 have HBa := Aside0.mk hB
 have HL := Aside0.mk (laid_below hL hB)
 have HL0 := Aside0.mk hL
 have HG1 := Aside0.mk (blk_new w (.cells #[.int .i64 a2] 3))
 have hb : decide (a2 < 1) = false := decide_eq_false (by omega)
 have hb2 : decide (a2 > 65536) = false := decide_eq_false (by omega)
 have hb3 : decide (65536 < a2) = false := decide_eq_false (by omega)
 obtain ⟨i0, hi0, _, hsz0, _⟩ := info_parts info5
 obtain ⟨A9, hcut, hA9, hC9⟩ := print_mid_of (P := Tryd.prog) (Value.int .u8) 0 29 5 .i64 .i64 Tryd.underlying29 hi0 hsz0 A0 c0 l0 s m g0 g1 g2 hc0
 have HR9 := Aside0.mk (Kd.C_of_reads (h1 := fun _ => rfl) (hA9 _ (Kd.reads_of_C hr0)))
 have HC9 := Aside0.mk hC9
 have hm_ : (if ct < p then ct else p) = m := hm
 have hll : ((l0.take m.toNat).drop s.toNat).length ≤ l0.length := by simp; omega
 have HLL := Aside0.mk hll
 clear hr0 ho hw hL hl hi0 hsz0 hB hA9 hC9 hm hll
 replace g0 := eq_true g0
 replace g1 := eq_true g1
 replace g2 := eq_true g2
 generalize (l0.take m.toNat).drop s.toNat = l9 at *
 simp only [Tryd.ntmps26, List.size_toArray, List.length_cons, List.length_nil, Nat.reduceAdd, Nat.reduceSub, Array.replicate_succ, Array.replicate_zero, List.push_toArray, List.append_toArray, List.nil_append, List.cons_append]
 gi_wp2_with (fail)
 refine ⟨trivial, ?_⟩
 gi_at_call 44
 refine (callsIn_wide.2 (words_outside.calls A0 c0 l0 a1 false _ HR.out hc0 HO.out)).mono ?_
 rintro e w' ⟨rfl, ⟨nd, rfl⟩⟩
 have c0w := blk_cell (blk_drewN HG1.out nd) 0
 gi_wp2_with (fail)
 refine ⟨trivial, ?_⟩
 gi_at_call 45
 refine (callsIn_wide.2 (lines_Where.calls _ A0 c0 l0 a1 p r2 r3 ln r5 r6 r7 0 _ (Kd.C_drewN HR.out _) hc0 (laid_below HL.out (pw_below_drewN (Below.refl _ _) _)) HW.out)).mono ?_
 rintro e w5 ⟨rfl, hb5⟩
 have HB5 := Aside0.mk ((pw_below_drewN HBa.out nd).trans (hb5.mono (pw_below_drewN HBa.out nd).size))
 have HG5 := Aside0.mk (blk_below (blk_drewN HG1.out nd) hb5)
 have hs5 : w.heap.size + 1 ≤ w5.heap.size := by have := hb5.size; simpa using this
 clear hb5 c0w HG1 HBa HL HR
 have c5 := blk_cell HG5.out 0
 gi_wp2_with (fail)
 refine ⟨trivial, ?_⟩
 gi_at_call 46
 refine (callsIn_wide.2 (lines_Line.calls A0 c0 l0 ln s ct y3 y4 _ (Kd.C_below HR0.out (HB5.out.alloc HB5.out.size _)) hc0 HLN.out)).mono ?_
 rintro e w6 ⟨rfl, hb6⟩
 have HB6 := Aside0.mk ((HB5.out.alloc HB5.out.size (.cells #[.int .i64 p, .int .i64 r2, .int .i64 r3, .int .i64 ln, .int .i64 r5, .int .i64 r6, .int .i64 r7] 87)).trans (hb6.mono (HB5.out.alloc HB5.out.size _).size))
 have HG6 := Aside0.mk (blk_below (blk_alloc HG5.out _) hb6)
 have hg8 := blk_below (blk_new w5 (.cells #[.int .i64 p, .int .i64 r2, .int .i64 r3, .int .i64 ln, .int .i64 r5, .int .i64 r6, .int .i64 r7] 87)) hb6
 have hs6 : w5.heap.size + 1 ≤ w6.heap.size := by have := hb6.size; simpa using this
 have c8 := blk_cell (blk_alloc hg8 (.cells #[.int .i64 0] 3)) 0
 have hcutS := hcut
 clear hb6 hg8 c5 hb hb2 hb3
 have HR6 := Aside0.mk (Kd.C_below HR9.out (HB6.out.alloc HB6.out.size (.cells #[.int .i64 0] 3)))
 gi_wp2_with (refine ⟨trivial, ?_⟩; gi_at_call 47; refine (callsIn_wide.2 (step_All.calls A9 (c0 - s.toNat) l9 _ HR6.out HC9.out)).mono ?_; rintro e w' ⟨rfl, rfl⟩)
 obtain ⟨W1, hW1⟩ : ∃ W1, (w6.alloc (.cells #[.int .i64 0] 3)).alloc (.cells #[.string (strOfNums l9)] 9) = W1 := ⟨_, rfl⟩
 have hb1 : W1.heap[w.heap.size]? = some (.cells #[.int .i64 a2] 3 (0, 0)) := by rw [← hW1]; exact blk_alloc (blk_alloc HG6.out _) _
 have hn1 : W1.heap[w6.heap.size]? = some (.cells #[.int .i64 0] 3 (0, 0)) := by rw [← hW1]; exact blk_alloc (blk_new w6 _) _
 have bs1 : W1.heap[w6.heap.size + 1]? = some (.cells #[.string (strOfNums l9)] 9 (0, 0)) := by
  rw [← hW1]; have := blk_new (w6.alloc (.cells #[.int .i64 0] 3)) (.cells #[.string (strOfNums l9)] 9); rwa [World.size_alloc] at this
 have hB1 : Below w.heap.size w W1 := by rw [← hW1]; exact (HB6.out.alloc HB6.out.size _).alloc (by have := HB6.out.size; simp; omega) _
 have hs1 : W1.heap.size = w6.heap.size + 2 := by rw [← hW1]; simp
 have hL1 := laid_below HL0.out hB1
 have hpos : 0 < w.heap.size := laid_lt HL0.out
 have hns : (strOfNums l9).size ≤ 4398046511104 := by rw [strOfNums_size]; exact Nat.le_trans HLL.out hlim
 rw [hW1]
 clear hW1 c8 HR6 HR9 HR0 HC9 hcut hcutS g0 g1 g2 hm_
 have hs6w := HB6.out.size
 refine wpIn_rangeFunc_ownH rfl (by decide) (gf := 72) (lb := #[.pointer (some ⟨w6.heap.size + 1, 0, none⟩)]) rfl trivial (enters_of Tryd.func72 (by kernel_rfl) rfl)
  (step_All1.stops (10 - 1) (w6.heap.size + 1) w.heap.size (by decide) (strOfNums l9) (by omega) hpos W1 bs1 hB1.size hL1) KpBox.t (KpBox.b hB1.size (by omega)) (Below.refl _ _) (fun _ => rfl)
  (fun pre V => (Below w.heap.size w V ∧ V.heap[w6.heap.size + 1]? = some (.cells #[.string (strOfNums l9)] 9 (0, 0))) ∧ V.heap[w.heap.size]? = some (.cells #[.int .i64 a2] 3 (0, 0)) ∧
   V.heap[w6.heap.size]? = some (.cells #[.int .i64 (pre.foldl (colStep a2) 0)] 3 (0, 0)))
  (fun _ _ _ => False)
  (fun s X Y row hs hg hr => ⟨⟨ownFrom_below (Nat.le_refl _) hB1.size s X Y row hs.1.1 hg hr, blk_abides hs.1.2 hg (fun r e => (hr r e).2)⟩, blk_abides hs.2.1 hg (fun r e => (hr r e).2), blk_abides hs.2.2 hg (fun r e => (hr r e).2)⟩)
  (fun _ _ _ _ _ hs _ _ => hs)
  ⟨⟨hB1, bs1⟩, hb1, hn1⟩
  (fun x a' V => ∃ Bx, W1.heap.size ≤ Bx ∧ V.heap[Bx]? = some (.cells #[.int .i32 x.2.1, .int .i64 x.2.2.1, .bool x.2.2.2] 23 (0, 0)) ∧ a' = { tmps := #[.slice A0 l0.length c0, .int .i64 a1, .int .i64 a2, undef, undef, .pointer (some ⟨w.heap.size, 0, none⟩), .int .i64 0, .int .i64 0, .pointer (some ⟨w5.heap.size, 0, none⟩), .int .i64 0, .int .i64 s, .int .i64 ct, .int .i64 y3, .int .i64 y4, .pointer (some ⟨w6.heap.size, 0, none⟩), undef, .pointer (some ⟨Bx, 0, none⟩), .slice A0 l0.length c0, .int .i64 a1, .bool false, .bool false, .int .i64 a2, .bool false, .bool false, .bool false, .int .i64 a2, .bool false, .bool false, (.tuple #[.agg #[.int .i64 p, .int .i64 r2, .int .i64 r3, .int .i64 ln, .int .i64 r5, .int .i64 r6, .int .i64 r7], .int .i64 0]), .slice A0 l0.length c0, .int .i64 a1, (.tuple #[.agg #[.int .i64 p, .int .i64 r2, .int .i64 r3, .int .i64 ln, .int .i64 r5, .int .i64 r6, .int .i64 r7], .int .i64 0]), (.agg #[.int .i64 p, .int .i64 r2, .int .i64 r3, .int .i64 ln, .int .i64 r5, .int .i64 r6, .int .i64 r7]), .int .i64 0, .int .i64 0, .bool false, undef, (.tuple #[.int .i64 s, .int .i64 ct, .int .i64 y3, .int .i64 y4]), .slice A0 l0.length c0, .pointer (some ⟨w5.heap.size, 3, none⟩), .int .i64 ln, (.tuple #[.int .i64 s, .int .i64 ct, .int .i64 y3, .int .i64 y4]), .int .i64 s, .int .i64 ct, .int .i64 y3, .int .i64 y4, .slice A0 l0.length c0, .int .i64 s, .pointer (some ⟨w5.heap.size, 0, none⟩), .int .i64 p, .int .i64 ct, .int .i64 m, .slice A9 l9.length (c0 - s.toNat), .func (.func 72) #[] #[.pointer (some ⟨w6.heap.size + 1, 0, none⟩)], .int .i64 x.1, .agg #[.int .i32 x.2.1, .int .i64 x.2.2.1, .bool x.2.2.2], undef, undef, undef, undef, undef, undef, undef, undef, undef, undef, undef, undef, undef, undef, undef, undef], defers := [] })
  (fun x a' _ X Y row hs hg hr => by obtain ⟨Bx, h1, h2, h3⟩ := hs; exact ⟨Bx, h1, blk_abides h2 hg (fun r e => (hr r e).2), h3⟩)
  ?assign ?body ?done ?stop
 case assign =>
  rintro l' pre x V K ⟨⟨hB, hbs⟩, hb, hn⟩ hK
  gi_wp2
  have hlt := blk_lt hbs
  exact hK _ _ ((KeepsOthers.alloc _ _).from _) (KpBox.of ((Below.refl _ V).alloc hB.size _) ((blk_alloc hbs _).trans hbs.symm) (KeepsOthers.alloc _ _)) ⟨⟨hB.alloc hB.size _, blk_alloc hbs _⟩, blk_alloc hb _, blk_alloc hn _⟩ ⟨V.heap.size, by omega, blk_new V _, rfl⟩
 case body =>
  rintro l' pre x a' V hl' ⟨r, hr⟩ ⟨⟨hB, hbs⟩, hb, hn⟩ ⟨Bx, hBx, hbx, rfl⟩ hlen
  obtain ⟨xp, xr, xw, xb⟩ := x
  dsimp only at hbx ⊢
  refine wpIn_mono (Q := ColPost W1.heap.size (KpBox w.heap.size (w6.heap.size + 1)) (fun V2 => (Below w.heap.size w V2 ∧ V2.heap[w6.heap.size + 1]? = some (.cells #[.string (strOfNums l9)] 9 (0, 0))) ∧ V2.heap[w.heap.size]? = some (.cells #[.int .i64 a2] 3 (0, 0)) ∧
   V2.heap[w6.heap.size]? = some (.cells #[.int .i64 (colStep a2 (pre.foldl (colStep a2) 0) (xp, xr, xw, xb))] 3 (0, 0))) V) ?walk ?post
  case post =>
   rintro e a9 V2 ⟨rfl, g1, g2, g3⟩
   exact ⟨g1, g2, g3.1, g3.2.1, by rw [List.foldl_append]; exact g3.2.2⟩
  generalize pre.foldl (colStep a2) 0 = nn at *
  have cb := blk_cell hb 0
  have cn := blk_cell hn 0
  have fn0 := blk_frozen hn 0
  have cx0 := blk_cell hbx 0
  have cx1 := blk_cell hbx 1
  have cx2 := blk_cell hbx 2
  have hne : ¬ a2 = 0 := by omega
  have hmx : Tryd.prog.follows .mixedOrders = true := by kernel_rfl
  have HSB := Aside0.mk hbs
  have HSW := Aside0.mk hb
  have HSN := Aside0.mk hn
  have hlt := blk_lt hbs
  have hw0 := blk_lt hb
  clear hbs hb hbx hr
  cases xb with
  | false =>
   have hst : colStep a2 nn (xp, xr, xw, false) = wrap64 (nn + 1) := by simp [colStep]
   rw [hst]
   clear hst
   gi_wp2
   exact colPost_of w _ _ _ _ _ nn _ V V _ (KeepsOthers.refl _) (Below.refl _ _) hB HSB.out HSW.out HSN.out rfl (by omega) (by omega) (by omega)
  | true =>
   by_cases hx : xr = 9
   ·have hst : colStep a2 nn (xp, xr, xw, true) = wrap64 (wrap64 (wrap64 (nn.tdiv a2) + 1) * a2) := by simp [colStep, hx]
    rw [hst]
    clear hst
    have hxb : (xr == 9) = true := by simpa using hx
    gi_wp2
    gi_region_with_o (skip)
    all_goals gi_wp2
    all_goals simp only [i64_w]
    all_goals exact (show (V.drew.setCell ⟨w6.heap.size, 0, none⟩ (.int .i64 (wrap64 (wrap64 (wrap64 (nn.tdiv a2) + 1) * a2)))) = (V.setCell ⟨w6.heap.size, 0, none⟩ (.int .i64 (wrap64 (wrap64 (wrap64 (nn.tdiv a2) + 1) * a2)))).drew from rfl) ▸ colPost_of w _ _ _ _ _ nn _ V V.drew _ (KeepsOthers.drew _) ((Below.refl _ _).drew) hB HSB.out HSW.out HSN.out rfl (by omega) (by omega) (by omega)
   ·have hst : colStep a2 nn (xp, xr, xw, true) = wrap64 (nn + 1) := by simp [colStep, hx]
    rw [hst]
    clear hst
    have hxb : (xr == 9) = false := by simpa using hx
    gi_wp2
    exact colPost_of w _ _ _ _ _ nn _ V V _ (KeepsOthers.refl _) (Below.refl _ _) hB HSB.out HSW.out HSN.out rfl (by omega) (by omega) (by omega)
 case done =>
  rintro D zs V hD rfl ⟨⟨hB, hbs⟩, hb, hn⟩ hK
  have cn := blk_cell hn 0
  gi_wp2
  refine ⟨by simp, .inl ⟨_, _, rfl, run_takeDeferred hK, ?_⟩⟩
  exact ⟨_, results_tmp2 rfl _ _ _, rfl, hB.trans (belowK_b (w := w) (Nat.le_refl _) V D _ _ (by omega) hK rfl rfl)⟩
 case stop =>
  rintro D c pre W _ _ h _
  exact h.elim

theorem words_Column.calls (A0 : Option Addr) (c0 : Nat) (l0 : List Int) (a1 a2 : Int) (r1 r2 : Int) (w : World) (hr0 : Kd.C (Kd.int .u8) w A0 l0.length l0) (hc0 : l0.length ≤ c0) (hL : LaidBad w) (h : words_Column.f l0 a1 a2 = some (r1, r2)) :
  Calls Tryd.prog 26 #[.slice A0 l0.length c0, .int .i64 a1, .int .i64 a2] w fun e w' => e = .returned (.tuple #[.int .i64 r1, .int .i64 r2]) ∧ Below w.heap.size w w' := by
 unfold words_Column.f at h
 obtain ⟨o, ho, h⟩ := Option.bind_eq_some_iff.mp h
 by_cases h0 : o = true
 ·rw [if_pos h0] at h
  cases h
  exact words_Column.bad A0 c0 l0 a1 a2 o w hr0 hc0 ho (.inl h0)
 rw [if_neg h0] at h
 by_cases h1 : a2 < 1
 ·rw [if_pos h1] at h
  cases h
  exact words_Column.bad A0 c0 l0 a1 a2 o w hr0 hc0 ho (.inr (.inl h1))
 rw [if_neg h1] at h
 by_cases h2 : a2 > 65536
 ·rw [if_pos h2] at h
  cases h
  exact words_Column.bad A0 c0 l0 a1 a2 o w hr0 hc0 ho (.inr (.inr h2))
 rw [if_neg h2] at h
 obtain rfl : o = false := by simpa using h0
 obtain ⟨⟨p, r2', r3, ln, r5, r6, r7, r8⟩, hw, h⟩ := Option.bind_eq_some_iff.mp h
 dsimp only at h
 by_cases he : r8 = 0
 ·rw [if_pos he] at h
  subst he
  obtain ⟨⟨s, ct, y3, y4⟩, hl, h⟩ := Option.bind_eq_some_iff.mp h
  dsimp only at h
  by_cases g0 : 0 ≤ s
  ·rw [if_pos g0] at h
   by_cases g1 : s ≤ mn p ct
   ·rw [if_pos g1] at h
    by_cases g2 : mn p ct ≤ (l0.length : Int)
    ·rw [if_pos g2] at h
     by_cases g3 : l0.length ≤ 4398046511104
     ·rw [if_pos g3] at h
      cases h
      exact callsIn_wide.1 (words_Column.walk A0 c0 l0 a1 a2 p r2' r3 ln r5 r6 r7 s ct y3 y4 w hr0 hc0 hL ho (by omega) (by omega) hw hl _ rfl g0 g1 g2 g3)
     ·rw [if_neg g3] at h
      cases h
    ·rw [if_neg g2] at h
     cases h
   ·rw [if_neg g1] at h
    cases h
  ·rw [if_neg g0] at h
   cases h
 ·rw [if_neg he] at h
  cases h
  exact words_Column.err A0 c0 l0 a1 a2 p r2' r3 ln r5 r6 r7 _ w hr0 hc0 hL ho (by omega) (by omega) hw he

end Go.Proofs.YtijbkiajhicooaaDoor.PW

namespace Go.Proofs.YtijbkiajhicooaaDoor.PW
open Go.RowKit Go.Proofs.YtijbkiajhicooaaDoorW.PrintWords Go.Proofs.YtijbkiajhicooaaDoorW.PrintLast Go.Proofs.YtijbkiajhicooaaDoorW.PrintMore
attribute [local go_sem] max2_int min2_int max_two min_two max_three min_three max_four min_four   -- for this text's walks alone
set_option linter.unusedVariables false
set_option linter.unusedSimpArgs false

def galleyref01_SameInts.l0 : Nat → List Int → List Int → Int → Option (Bool)
 | 0, _, _, _ => none
 | k + 1, x0, x1, x5 => if x5 < (x0.length : Int) then (if 0 ≤ x5 then (if x5 < (x1.length : Int) then (if (rd x0 x5) = (rd x1 x5) then (galleyref01_SameInts.l0 k x0 x1 (wrap64 (x5 + 1))) else (some false)) else (none)) else (none)) else (some true)
def galleyref01_SameInts.f (k : Nat) (l0 : List Int) (l1 : List Int) : Option (Bool) := if (l0.length : Int) = (l1.length : Int) then (galleyref01_SameInts.l0 k l0 l1 0) else (some false)
set_option maxHeartbeats 8000000 in
set_option maxRecDepth 100000 in
theorem galleyref01_SameInts.calls (k : Nat) (A0 : Option Addr) (c0 : Nat) (l0 : List Int) (A1 : Option Addr) (c1 : Nat) (l1 : List Int) (r : Bool) (w : World) (hr0 : Kd.C (Kd.int .i64) w A0 l0.length l0) (hc0 : l0.length ≤ c0) (hr1 : Kd.C (Kd.int .i64) w A1 l1.length l1) (hc1 : l1.length ≤ c1) (h : galleyref01_SameInts.f k l0 l1 = some r) :
  Calls Tryd.prog 38 #[.slice A0 l0.length c0, .slice A1 l1.length c1] w fun e w' => e = .returned (.bool r) ∧ Drawn0 w w' := by
 have HR0 := Aside0.mk hr0
 have HC0 := Aside0.mk hc0
 clear hr0 hc0
 have HR1 := Aside0.mk hr1
 have HC1 := Aside0.mk hc1
 clear hr1 hc1
 have H : (if (l0.length : Int) = (l1.length : Int) then (galleyref01_SameInts.l0 k l0 l1 0) else (some false)) = some r := h
 clear h
 by_cases c3 : (l0.length : Int) = (l1.length : Int)
 ·rw [if_pos c3] at H
  have c3b0 : ((l0.length : Int) == (l1.length : Int)) = true := beq_iff_eq.mpr c3
  have c3b1 : ((l0.length : Int) != (l1.length : Int)) = false := bne_eq_false_iff_eq.mpr c3
  have c3b2 : (l0.length == l1.length) = true := by first | simpa using c3 | (simp at c3 ⊢; omega)
  clear c3
  have H' := Aside0.mk H
  clear H
  go_enter Tryd.func38, Tryd.ntmps38
  go_wp2
  repeat (go_quiet (fail); try go_wp2)
  go_loopg [5] k (fun kq v5 w' => ∃ (x5_1 : Int), v5 = .int .i64 x5_1 ∧ Aside0 (galleyref01_SameInts.l0 kq l0 l1 x5_1 = some r) ∧ Aside0 (kq ≤ k) ∧ Drawn0 w w')
  case atStart => exact ⟨(0), (by first | rfl | (simp; done) | (simp [*]; done)), H', ⟨Nat.le_refl _⟩, by repeat (first | exact Drawn0.refl _ | apply Drawn0.step)⟩
  case round =>
   clear H'
   try clear c1
   try clear p2
   try clear c3
   try clear c3b0
   try clear c3b1
   try clear c3b2
   obtain ⟨x5_1, rfl, HA, HK1, ⟨m1, rfl⟩⟩ := hrel
   cases gk with
   | zero => exact absurd HA.out (by simp [galleyref01_SameInts.l0])
   | succ k1 =>
    have H := HA.out
    clear HA
    simp only [galleyref01_SameInts.l0] at H
    by_cases c4 : x5_1 < (l0.length : Int)
    ·rw [if_pos c4] at H
     have c4b0 : decide (x5_1 < (l0.length : Int)) = true := decide_eq_true c4
     clear c4
     by_cases c5 : 0 ≤ x5_1
     ·rw [if_pos c5] at H
      have c5b0 : decide (0 ≤ x5_1) = true := decide_eq_true c5
      clear c5
      by_cases c6 : x5_1 < (l1.length : Int)
      ·rw [if_pos c6] at H
       have c6b0 : decide (x5_1 < (l1.length : Int)) = true := decide_eq_true c6
       clear c6
       by_cases c7 : (rd l0 x5_1) = (rd l1 x5_1)
       ·rw [if_pos c7] at H
        have c7b0 : ((rd l0 x5_1) == (rd l1 x5_1)) = true := beq_iff_eq.mpr c7
        have c7b1 : ((rd l0 x5_1) != (rd l1 x5_1)) = false := bne_eq_false_iff_eq.mpr c7
        clear c7
        have H' := Aside0.mk H
        clear H
        have p183 : 0 ≤ (x5_1 : Int) := of_decide_eq_true (by first | (with_reducible assumption) | assumption)
        have q183 : x5_1 < (l0.length : Int) := of_decide_eq_true (by first | (with_reducible assumption) | assumption)
        obtain ⟨ad183, e183, hx183_0⟩ := Kd.at_int HR0.out x5_1 p183 q183
        cases e183
        replace p183 := eq_true p183
        replace q183 := eq_true q183
        have p184 : 0 ≤ (x5_1 : Int) := of_decide_eq_true (by first | (with_reducible assumption) | assumption)
        have q184 : x5_1 < (l1.length : Int) := of_decide_eq_true (by first | (with_reducible assumption) | assumption)
        obtain ⟨ad184, e184, hx184_0⟩ := Kd.at_int HR1.out x5_1 p184 q184
        cases e184
        replace p184 := eq_true p184
        replace q184 := eq_true q184
        go_wp2
        repeat (go_quiet (fail); try go_wp2)
        go_roundg k1
        case measure => have := HK1.out; omega
        case rel => exact ⟨(wrap64 (x5_1 + 1)), (by first | rfl | (simp; done) | (simp [*]; done)), H', ⟨by have := HK1.out; omega⟩, by repeat (first | exact Drawn0.refl _ | apply Drawn0.step)⟩
       ·rw [if_neg c7] at H
        have c7b0 : ((rd l0 x5_1) == (rd l1 x5_1)) = false := beq_eq_false_iff_ne.mpr c7
        have c7b1 : ((rd l0 x5_1) != (rd l1 x5_1)) = true := bne_iff_ne.mpr c7
        obtain rfl := Option.some.inj H
        have p183 : 0 ≤ (x5_1 : Int) := of_decide_eq_true (by first | (with_reducible assumption) | assumption)
        have q183 : x5_1 < (l0.length : Int) := of_decide_eq_true (by first | (with_reducible assumption) | assumption)
        obtain ⟨ad183, e183, hx183_0⟩ := Kd.at_int HR0.out x5_1 p183 q183
        cases e183
        replace p183 := eq_true p183
        replace q183 := eq_true q183
        have p184 : 0 ≤ (x5_1 : Int) := of_decide_eq_true (by first | (with_reducible assumption) | assumption)
        have q184 : x5_1 < (l1.length : Int) := of_decide_eq_true (by first | (with_reducible assumption) | assumption)
        obtain ⟨ad184, e184, hx184_0⟩ := Kd.at_int HR1.out x5_1 p184 q184
        cases e184
        replace p184 := eq_true p184
        replace q184 := eq_true q184
        go_wp2
        repeat (go_quiet (fail); try go_wp2)
        go_ret
        exact ⟨by first | rfl | (simp; done) | (simp [*]; done), by repeat (first | exact Drawn0.refl _ | apply Drawn0.step)⟩
      ·rw [if_neg c6] at H
       exact absurd H (by simp)
     ·rw [if_neg c5] at H
      exact absurd H (by simp)
    ·rw [if_neg c4] at H
     have c4b0 : decide (x5_1 < (l0.length : Int)) = false := decide_eq_false c4
     clear c4
     obtain rfl := Option.some.inj H
     go_wp2
     repeat (go_quiet (fail); try go_wp2)
     go_ret
     exact ⟨by first | rfl | (simp; done) | (simp [*]; done), by repeat (first | exact Drawn0.refl _ | apply Drawn0.step)⟩
 ·rw [if_neg c3] at H
  have c3b0 : ((l0.length : Int) == (l1.length : Int)) = false := beq_eq_false_iff_ne.mpr c3
  have c3b1 : ((l0.length : Int) != (l1.length : Int)) = true := bne_iff_ne.mpr c3
  have c3b2 : (l0.length == l1.length) = false := by first | simpa using c3 | (simp at c3 ⊢; omega)
  obtain rfl := Option.some.inj H
  go_enter Tryd.func38, Tryd.ntmps38
  go_wp2
  repeat (go_quiet (fail); try go_wp2)
  go_ret
  exact ⟨by first | rfl | (simp; done) | (simp [*]; done), by repeat (first | exact Drawn0.refl _ | apply Drawn0.step)⟩

end Go.Proofs.YtijbkiajhicooaaDoor.PW

namespace Go.Proofs.YtijbkiajhicooaaDoor.PW
open Go.RowKit Go.Proofs.YtijbkiajhicooaaDoorW.PrintWords Go.Proofs.YtijbkiajhicooaaDoorW.PrintLast Go.Proofs.YtijbkiajhicooaaDoorW.PrintMore
attribute [local go_sem] max2_int min2_int max_two min_two max_three min_three max_four min_four   -- for this text's walks alone
set_option linter.unusedVariables false
set_option linter.unusedSimpArgs false

def wkT : List Int := [97, 98, 32, 99, 95, 57, 44, 32, 195, 169, 120]
def wkC : List Int := [97, 9, 98]
def wkW : List Int := [97, 97, 32, 98, 98, 32, 99, 99]
def wkH : List S36 := [⟨0, 2⟩, ⟨3, 6⟩, ⟨8, 11⟩]
theorem wk_around : words_Around.f 30 wkT 9 = some (8, 11, 3, 0) := by kernel_rfl
theorem wk_next : words_Next.f 30 wkT 3 = some (8, 0) := by kernel_rfl
theorem wk_prev : words_Prev.f 30 wkT 8 = some (3, 0) := by kernel_rfl
theorem wk_column : words_Column.f wkC 3 4 = some (5, 0) := by kernel_rfl
theorem wk_wrap : words_Wrap.f 30 wkW 4 = some ([3, 6], 0) := by kernel_rfl
theorem wk_all : words_All.f 30 wkT = some wkH := by kernel_rfl
theorem wk_same : galleyref22_SameHits.f 30 wkH wkH = some true := by kernel_rfl
theorem wk_ints : galleyref01_SameInts.f 30 [3, 6] [3, 6] = some true := by kernel_rfl
theorem wk_kind : words_Kind.f 3 95 1 true = some 3 := by kernel_rfl
def galleylaw22_wakes.f : Option Bool := some true
theorem C_const {k : IntKind} {w : World} {g : Nat} {t : TypeId} {fr : Nat × Nat} (l : List Int) (cs : Array Value) (hcs : cs = (l.map (Value.int k)).toArray) (h : w.heap[g]? = some (.cells cs t fr)) (hl : l.length ≤ 9223372036854775807) : Kd.C (Kd.int k) w (some ⟨g, 0, none⟩) l.length l :=
 Kd.C_of_reads (enc := Value.int k) (d := (0 : Int)) (h1 := fun _ => rfl) ⟨rfl, hl, fun _ => ⟨_, rfl, fun j hj => by
  rw [add_plain, cell_of_row w g j cs t fr h]
  subst hcs
  simp [hj]⟩⟩
theorem R_wkH (w W : World) (hB : Below w.heap.size w W) : k36.R 36 (W.alloc (.cells #[.int .i64 0, .int .i64 2, .int .i64 3, .int .i64 6, .int .i64 8, .int .i64 11] 36)) w.heap.size (fun _ => True) (.slice (some ⟨W.heap.size, 0, none⟩) 3 3) wkH := by
 have h2 := World.ownsRow_lit (base := w.heap.size) (e := 36) (size := 2) W #[.int .i64 0, .int .i64 2, .int .i64 3, .int .i64 6, .int .i64 8, .int .i64 11] 3 hB.size (by simp [maxLen]) (by simp)
 refine ⟨fun _ _ => trivial, _, (by simpa using h2 : World.ownsRow _ _ _ 2 _ 3 _), rfl, fun j p hj => ?_⟩
 match j, hj with
 | 0, hj => cases hj; exact k36_mkM _ _ _ ⟨0, 2⟩
 | 1, hj => cases hj; exact k36_mkM _ _ _ ⟨3, 6⟩
 | 2, hj => cases hj; exact k36_mkM _ _ _ ⟨8, 11⟩
 | j + 3, hj => simp [wkH] at hj
set_option maxRecDepth 100000 in
set_option maxHeartbeats 4000000 in
theorem galleylaw22_wakes.walk (w : World) (hL : LaidBad w) :
  Calls Tryd.prog 13 #[] w fun e w' => e = .returned (.bool true) ∧ Below w.heap.size w w' := by
 have kc := fun (w : World) (C : Array Value) (n c : Nat) => Lib.run_convert_bytes_const (P := Tryd.prog) w 29 5 C n c Tryd.underlying29 Tryd.underlying5
 have hu := Tryd.underlying36
 have hu2 := Tryd.underlying23
 obtain ⟨W1, hW1⟩ : ∃ W1, w.alloc (.cells #[.int .u8 97, .int .u8 98, .int .u8 32, .int .u8 99, .int .u8 95, .int .u8 57, .int .u8 44, .int .u8 32, .int .u8 195, .int .u8 169, .int .u8 120] 5 (11, 12)) = W1 := ⟨_, rfl⟩
 have hB1 : Below w.heap.size w W1 := by rw [← hW1]; exact (Below.refl _ w).alloc (Nat.le_refl _) _
 have HB1 := Aside0.mk hB1
 have HT1 : Aside0 (Kd.C (Kd.int .u8) W1 (some ⟨w.heap.size, 0, none⟩) wkT.length wkT) := Aside0.mk (C_const (t := 5) (fr := (11, 12)) wkT _ rfl (by rw [← hW1]; exact World.alloc_heap_new w _) (by decide))
 have HL1 := Aside0.mk (laid_below hL hB1)
 have HL := Aside0.mk hL
 clear hL hB1
 go_enter Tryd.func13, Tryd.ntmps13
 go_wp2_with fail
 refine (words_Around.calls 30 _ 11 wkT 9 8 11 3 0 _ HT1.out (Nat.le_refl _) HL1.out wk_around).mono ?_
 rintro e w2 ⟨rfl, hb2⟩
 have HB2 := Aside0.mk (below_step HB1.out hb2)
 have HT2 := Aside0.mk (Kd.C_below HT1.out hb2)
 clear hb2 hW1 HB1 HT1 HL1
 go_wp2_with fail
 have HB2' := Aside0.mk (below_alloc HB2.out (.cells #[.int .i64 8, .int .i64 11] 36))
 have HT2' := Aside0.mk (Kd.C_alloc HT2.out (.cells #[.int .i64 8, .int .i64 11] 36))
 refine (words_Next.calls 30 _ 11 wkT 3 8 0 _ HT2'.out (Nat.le_refl _) (laid_below HL.out HB2'.out) wk_next).mono ?_
 rintro e w3 ⟨rfl, hb3⟩
 have HG3 := Aside0.mk (blk_below (blk_new w2 (.cells #[.int .i64 8, .int .i64 11] 36)) hb3)
 have HB3 := Aside0.mk (below_step HB2'.out hb3)
 have HT3 := Aside0.mk (Kd.C_below HT2'.out hb3)
 clear hb3 HB2 HT2 HB2' HT2'
 go_wp2_with fail
 refine (words_Prev.calls 30 _ 11 wkT 8 3 0 _ HT3.out (Nat.le_refl _) (laid_below HL.out HB3.out) wk_prev).mono ?_
 rintro e w4 ⟨rfl, hb4⟩
 have HG4 := Aside0.mk (blk_below HG3.out hb4)
 have HB4 := Aside0.mk (below_step HB3.out hb4)
 have HT4 := Aside0.mk (Kd.C_below HT3.out hb4)
 clear hb4 HG3 HB3 HT3
 go_wp2_with fail
 have HB4' := Aside0.mk (below_alloc HB4.out (.cells #[.int .u8 97, .int .u8 9, .int .u8 98] 5 (3, 4)))
 have HT4' := Aside0.mk (Kd.C_alloc HT4.out (.cells #[.int .u8 97, .int .u8 9, .int .u8 98] 5 (3, 4)))
 have HC4 : Aside0 (Kd.C (Kd.int .u8) (w4.alloc (.cells #[.int .u8 97, .int .u8 9, .int .u8 98] 5 (3, 4))) (some ⟨w4.heap.size, 0, none⟩) wkC.length wkC) := Aside0.mk (C_const (t := 5) (fr := (3, 4)) wkC _ rfl (World.alloc_heap_new w4 _) (by decide))
 refine (words_Column.calls _ 3 wkC 3 4 5 0 _ HC4.out (Nat.le_refl _) (laid_below HL.out HB4'.out) wk_column).mono ?_
 rintro e w5 ⟨rfl, hb5⟩
 have HG5 := Aside0.mk (blk_below (blk_alloc HG4.out (.cells #[.int .u8 97, .int .u8 9, .int .u8 98] 5 (3, 4))) hb5)
 have HB5 := Aside0.mk (below_step HB4'.out hb5)
 have HT5 := Aside0.mk (Kd.C_below HT4'.out hb5)
 clear hb5 HG4 HB4 HT4 HB4' HT4' HC4
 go_wp2_with fail
 have HB5' := Aside0.mk (below_alloc HB5.out (.cells #[.int .u8 97, .int .u8 97, .int .u8 32, .int .u8 98, .int .u8 98, .int .u8 32, .int .u8 99, .int .u8 99] 5 (8, 9)))
 have HT5' := Aside0.mk (Kd.C_alloc HT5.out (.cells #[.int .u8 97, .int .u8 97, .int .u8 32, .int .u8 98, .int .u8 98, .int .u8 32, .int .u8 99, .int .u8 99] 5 (8, 9)))
 have HC5 : Aside0 (Kd.C (Kd.int .u8) (w5.alloc (.cells #[.int .u8 97, .int .u8 97, .int .u8 32, .int .u8 98, .int .u8 98, .int .u8 32, .int .u8 99, .int .u8 99] 5 (8, 9))) (some ⟨w5.heap.size, 0, none⟩) wkW.length wkW) := Aside0.mk (C_const (t := 5) (fr := (8, 9)) wkW _ rfl (World.alloc_heap_new w5 _) (by decide))
 refine (words_Wrap.calls 30 _ 8 wkW 4 [3, 6] 0 _ HC5.out (Nat.le_refl _) (laid_below HL.out HB5'.out) wk_wrap).mono ?_
 rintro e w6 ⟨vw, rfl, hv6, hb6⟩
 have HG6 := Aside0.mk (blk_below (blk_alloc HG5.out (.cells #[.int .u8 97, .int .u8 97, .int .u8 32, .int .u8 98, .int .u8 98, .int .u8 32, .int .u8 99, .int .u8 99] 5 (8, 9))) hb6)
 have HB6 := Aside0.mk (below_step HB5'.out hb6)
 have HT6 := Aside0.mk (Kd.C_below HT5'.out hb6)
 obtain ⟨AW, cW, rfl⟩ := Kd.R_slice hv6
 have HV6 := Aside0.mk (Kd.R_reads' hv6)
 clear hb6 HG5 HB5 HT5 HB5' HT5' HC5 hv6
 have c60 := blk_cell HG6.out 0
 have c61 := blk_cell HG6.out 1
 go_wp2_with fail
 refine (words_All.calls 30 _ 11 wkT wkH _ HT6.out (Nat.le_refl _) (laid_below HL.out HB6.out) wk_all).mono ?_
 rintro e w7 ⟨va, rfl, hv7, hb7⟩
 obtain ⟨AA, cA, rfl⟩ := Kd.R_slice hv7
 have HV7 := Aside0.mk (Kd.R_reads' hv7)
 have HB7 := Aside0.mk (below_step HB6.out hb7)
 have HW7 := Aside0.mk (Kd.C_below HV6.out.2.2 hb7)
 clear hb7 hv7 c60 c61 HG6 HB6 HT6
 go_wp2_with fail
 have hH := R_wkH w7 w7 (Below.refl _ _)
 refine (galleyref22_SameHits.calls 30 AA cA wkH (some ⟨w7.heap.size, 0, none⟩) 3 wkH true _ (Kd.C_alloc HV7.out.2.2 _) HV7.out.2.1 (Kd.R_reads' hH).2.2 (Kd.R_reads' hH).2.1 wk_same).mono ?_
 rintro e w8 ⟨rfl, ⟨n8, rfl⟩⟩
 go_wp2_with fail
 obtain ⟨W8, hW8⟩ : ∃ W8, ((w7.alloc (.cells #[.int .i64 0, .int .i64 2, .int .i64 3, .int .i64 6, .int .i64 8, .int .i64 11] 36)).drewN n8) = W8 := ⟨_, rfl⟩
 have HB8 := Aside0.mk (show Below w.heap.size w W8 by rw [← hW8]; exact pw_below_drewN (below_alloc HB7.out _) _)
 have HW8 := Aside0.mk (show Kd.C (Kd.int .i64) W8 AW [3, 6].length [3, 6] by rw [← hW8]; exact Kd.C_drewN (Kd.C_alloc HW7.out _) _)
 have hs8 : W8.heap.size = w7.heap.size + 1 := by rw [← hW8]; simp
 rw [hW8]
 clear hW8
 have HI8 : Aside0 (Kd.C (Kd.int .i64) (W8.alloc (.cells #[.int .i64 3, .int .i64 6] 3)) (some ⟨w7.heap.size + 1, 0, none⟩) [3, 6].length [3, 6]) := Aside0.mk (C_const (t := 3) (fr := (0, 0)) [3, 6] _ rfl (by rw [← hs8]; exact World.alloc_heap_new W8 _) (by decide))
 refine (galleyref01_SameInts.calls 30 AW cW [3, 6] (some ⟨w7.heap.size + 1, 0, none⟩) 2 [3, 6] true _ (Kd.C_alloc HW8.out _) HV6.out.2.1 HI8.out (Nat.le_refl _) wk_ints).mono ?_
 rintro e w9 ⟨rfl, ⟨n9, rfl⟩⟩
 have HB9 := Aside0.mk (pw_below_drewN (below_alloc HB8.out (.cells #[.int .i64 3, .int .i64 6] 3)) n9)
 go_wp2_with fail
 refine (words_Kind.calls 3 95 1 true 3 _ wk_kind).mono ?_
 rintro e wa ⟨rfl, hba⟩
 go_wp2
 go_ret
 exact ⟨rfl, below_step HB9.out hba⟩
theorem galleylaw22_wakes.calls (r : Bool) (w : World) (hL : LaidBad w) (h : galleylaw22_wakes.f = some r) :
  Calls Tryd.prog 13 #[] w fun e w' => e = .returned (.bool r) ∧ Below w.heap.size w w' := by
 cases h
 exact galleylaw22_wakes.walk w hL

end Go.Proofs.YtijbkiajhicooaaDoor.PW

namespace Go.Proofs.YtijbkiajhicooaaDoor.PW
open Go.RowKit Go.Proofs.YtijbkiajhicooaaDoorW.PrintWords Go.Proofs.YtijbkiajhicooaaDoorW.PrintLast Go.Proofs.YtijbkiajhicooaaDoorW.PrintMore
attribute [local go_sem] max2_int min2_int max_two min_two max_three min_three max_four min_four   -- for this text's walks alone
set_option linter.unusedVariables false
set_option linter.unusedSimpArgs false

def galleylaw22_own.f (l0 : List Int) : Option (List Int) := (some (([] : List Int) : List Int)).bind fun y190 => (if y190.length + l0.length < 140737488355328 then (some (y190 ++ l0)) else (none))
set_option maxHeartbeats 8000000 in
set_option maxRecDepth 100000 in
theorem galleylaw22_own.calls (A0 : Option Addr) (c0 : Nat) (l0 : List Int) (r : List Int) (w : World) (hr0 : Kd.C (Kd.int .u8) w A0 l0.length l0) (hc0 : l0.length ≤ c0) (h : galleylaw22_own.f l0 = some r) :
  Calls Tryd.prog 18 #[.slice A0 l0.length c0] w fun e w' => ∃ v0_ : Value, e = .returned (v0_) ∧ Kd.R (Kd.int .u8) 5 w' w.heap.size (fun _ => True) v0_ r ∧ Below w.heap.size w w' := by
 have HR0 := Aside0.mk hr0
 have HC0 := Aside0.mk hc0
 clear hr0 hc0
 have HB := Aside0.mk (Below.refl w.heap.size w)
 have H : ((some (([] : List Int) : List Int)).bind fun y190 => (if y190.length + l0.length < 140737488355328 then (some (y190 ++ l0)) else (none))) = some r := h
 clear h
 obtain ⟨y190, hy190⟩ : ∃ y_ : List Int, y_ = (([] : List Int)) := ⟨_, rfl⟩
 replace H : (if y190.length + l0.length < 140737488355328 then (some (y190 ++ l0)) else (none)) = some r := by first | (rw [hy190]; with_reducible exact H) | (have H2_ := (Option.bind_some _ _).symm.trans H; rw [hy190]; with_reducible exact H2_) | (have H2_ := (Option.bind_some _ _).symm.trans H; with_reducible exact H2_) | with_reducible exact H | (rw [hy190]; exact H) | exact H
 have Ny190 := Aside0.mk hy190
 clear hy190
 by_cases c2 : y190.length + l0.length < 140737488355328
 ·rw [if_pos c2] at H
  have LMc2 := Aside0.mk c2
  clear c2
  obtain ⟨y193, hy193⟩ : ∃ y_ : List Int, y_ = (y190 ++ l0) := ⟨_, rfl⟩
  replace H : (some y193) = some r := by first | (rw [hy193]; with_reducible exact H) | (have H2_ := (Option.bind_some _ _).symm.trans H; rw [hy193]; with_reducible exact H2_) | (have H2_ := (Option.bind_some _ _).symm.trans H; with_reducible exact H2_) | with_reducible exact H | (rw [hy193]; exact H) | exact H
  have Ny193 := Aside0.mk hy193
  clear hy193
  obtain rfl := Option.some.inj H
  go_enter Tryd.func18, Tryd.ntmps18
  go_wp2_with (first | ((with_reducible refine gate_dst (N := 3) rfl ?_); refine Kd.R_lit (Kd.int .u8) _ 5 ?hg (N := 3) ?hd (xs := ([] : List Int)) (inner := []) (ok := fun _ => True) (okp := fun _ => True) ?hr ?hp (fun _ hk => hk) trivial (Below.refl _ _) (Nat.le_refl _) (by simp) ?_; (case hd => rfl); (case hg => rfl); (case hr => first | (go_simp; done) | (go_simp; rfl)); (case hp => exact (Reps.none _ _)); intro v191 w3 ho4 hb hg_ hnew_; clear hg_ hnew_; (first | rw [← Ny190.out] at ho4 | (simp only [Int.reduceToNat] at ho4; rw [← Ny190.out] at ho4)); have n0_ := Aside0.mk (Kd.R_lower ho4 (below_size (by repeat (first | (with_reducible first | exact HB.out | apply below_alloc | apply pw_below_drewN | apply below_drew1) | exact HB.out)))); have n1_ := Aside0.mk (below_step (by repeat (first | (with_reducible first | exact HB.out | apply below_alloc | apply pw_below_drewN | apply below_drew1) | exact HB.out)) hb); clear HB; have HO192 := n0_; have HB := n1_; clear n0_ n1_; clear hb ho4) | ((with_reducible refine gate_builtin (b := .append) (xs := #[.tmp 3, .tmp 4]) rfl ?_); at_builtin; refine Kd.R_append_rows (Kd.int .u8) (w0 := w) w.heap.size rfl (.tmp 3) (.tmp 4) 29 5 (.int .u8 0) 1 rfl Tryd.underlying29 info5 rfl (by decide) (by omega) v191 y190 l0 _ _ _ (fun _ => True) (fun _ => False) rfl rfl ?aO ?aR (fun _ _ h => h) (fun _ h => h.elim) ?aF ?aB ?aS ?aL ?_; (case aR => repeat (first | exact (Kd.C_below HR0.out HB.out) | (with_reducible refine Kd.C_alloc ?_ _) | (with_reducible refine Kd.C_drewN ?_ _) | (with_reducible refine Kd.C_drew ?_))); (case aB => exact (by repeat (first | (with_reducible first | exact HB.out | apply below_alloc | apply pw_below_drewN | apply below_drew1) | exact HB.out))); (case aF => exact (fun _ _ => trivial)); (case aO => exact (by (with_reducible repeat (first | apply Kd.R_alloc | apply Kd.R_drewN | apply Kd.R_drew)); exact HO192.out)); (case aS => exact (below_size (by repeat (first | (with_reducible first | exact HB.out | apply below_alloc | apply pw_below_drewN | apply below_drew1) | exact HB.out)))); (case aL => have := LMc2.out; omega); intro v194 w5 ho hb hg hat; rw [← Ny193.out] at ho; have n0_ := Aside0.mk (hb); have n1_ := Aside0.mk (ho); clear HB; clear HO192; have HB := n0_; have HO195 := n1_; clear n0_ n1_; clear ho hb hg hat))
  go_ret
  exact ⟨_, by first | rfl | (simp [errW_none, errW_some] <;> rfl) | (simp [*, errW_none, errW_some] <;> rfl), by (with_reducible repeat (first | apply Kd.R_alloc | apply Kd.R_drewN | apply Kd.R_drew)); exact HO195.out, by repeat (first | (with_reducible first | exact HB.out | apply below_alloc | apply pw_below_drewN | apply below_drew1) | exact HB.out)⟩
 ·rw [if_neg c2] at H
  exact absurd H (by simp)

end Go.Proofs.YtijbkiajhicooaaDoor.PW

