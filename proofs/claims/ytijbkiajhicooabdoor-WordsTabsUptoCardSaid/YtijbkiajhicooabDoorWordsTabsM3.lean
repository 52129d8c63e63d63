-- Written by merge.py, a program of this session's: PWx19 PWx36 PWx37 PWx38 PWx39 PWx40 PWx41 PWx42 PWx43 PWx44
import Derived.Test.YtijbkiajhicooabDoorWordsTabsM1
import Derived.Test.YtijbkiajhicooabDoorWordsTabsM2
import Derived.Lib.OthersKept
import Derived.Maps.OwnIn
import Derived.RangeFuncNested
import Derived.RangeFuncLeaves
import Derived.Shelf.Abstract
import Derived.Shelf.RegionOpen
import Derived.OwnWalkIn
import Derived.TacticsInMore
import Derived.LoopNIn
import Derived.LoopIn
import Derived.Lib.SlBytesConst
namespace Go.Proofs.YtijbkiajhicooabDoor.PW
open Go.RowKit Go.Proofs.YtijbkiajhicooabDoorW.PrintWords Go.Proofs.YtijbkiajhicooabDoorW.PrintLast Go.Proofs.YtijbkiajhicooabDoorW.PrintMore
attribute [local go_sem] max2_int min2_int max_two min_two max_three min_three max_four min_four   -- for this text's walks alone
set_option linter.unusedVariables false
set_option linter.unusedSimpArgs false

def words_All.l0 : Nat → List (S44) → List (S109) → Int → Int → Option ((List (S44)))
 | 0, _, _, _, _ => none
 | k + 1, x3, x7, x8, x9 => if x9 < x8 then (if 0 ≤ x9 then (if x9 < (x7.length : Int) then (if ((rd_T109 x7 x9).f1) = 3 then (if x3.length < 8796093022208 then (words_All.l0 k (x3 ++ [(⟨(rd_T109 x7 x9).f0.f0, (rd_T109 x7 x9).f0.f1⟩ : S44)]) x7 x8 (wrap64 (x9 + 1))) else (none)) else (words_All.l0 k x3 x7 x8 (wrap64 (x9 + 1)))) else (none)) else (none)) else (some x3)
def words_All.f (k : Nat) (l0 : List Int) : Option ((List (S44))) := (words_runs.f l0).bind fun t133 => (words_All.l0 k ([] : List (S44)) t133 (t133.length : Int) 0)
set_option maxHeartbeats 8000000 in
set_option maxRecDepth 100000 in
theorem words_All.calls (k : Nat) (A0 : Option Addr) (c0 : Nat) (l0 : List Int) (r : List (S44)) (w : World) (hr0 : Kd.C (Kd.int .u8) w A0 l0.length l0) (hc0 : l0.length ≤ c0) (hL : LaidBad w) (h : words_All.f k l0 = some r) :
  Calls Tryd.prog 25 #[.slice A0 l0.length c0] w fun e w' => ∃ v0_ : Value, e = .returned (v0_) ∧ Kd.R k44 44 w' w.heap.size (fun _ => True) v0_ r ∧ Below w.heap.size w w' := by
 have hu109 := Tryd.underlying109
 have hu44 := Tryd.underlying44
 have HR0 := Aside0.mk hr0
 have HC0 := Aside0.mk hc0
 clear hr0 hc0
 have HB := Aside0.mk (Below.refl w.heap.size w)
 have HLB := Aside0.mk hL
 clear hL
 have H : ((words_runs.f l0).bind fun t133 => (words_All.l0 k ([] : List (S44)) t133 (t133.length : Int) 0)) = some r := h
 clear h
 replace H := Option.bind_eq_some_iff.mp H
 obtain ⟨t133, A20, H⟩ := H
 replace H : (words_All.l0 k ([] : List (S44)) t133 (t133.length : Int) 0) = some r := H
 have A2 := Aside0.mk A20
 clear A20
 have H' := Aside0.mk H
 clear H
 go_enter Tryd.func25, Tryd.ntmps25
 go_wp2_with (first | ((with_reducible refine gate_callee (f := 52) rfl ?_); refine goesL_ (some 7) rfl rfl Tryd.func52 (by kernel_rfl) rfl #[.slice A0 l0.length c0] rfl (by (try simp only [List.map_toArray, List.map_cons, List.map_nil]); first | done | rfl | (simp only [List.length_drop, List.length_take]; rfl)) ?_; (with_reducible refine (words_runs.calls _ _ l0 t133 _ ?side1 ?side2 ?side3 A2.out).mono ?_); (case side1 => repeat (first | exact HR0.out | (with_reducible refine Kd.C_alloc ?_ _) | (with_reducible refine Kd.C_drewN ?_ _) | (with_reducible refine Kd.C_drew ?_))); (case side2 => exact HC0.out); (case side3 => exact laid_below HLB.out (by repeat (first | (with_reducible first | exact HB.out | apply below_alloc | apply pw_below_drewN | apply below_drew1) | exact HB.out))); rintro e w3 ⟨v134, rfl, ho0, hb⟩; refine ⟨_, rfl, ?_⟩; have n0_ := Aside0.mk (Kd.R_lower ho0 (below_size (by repeat (first | (with_reducible first | exact HB.out | apply below_alloc | apply pw_below_drewN | apply below_drew1) | exact HB.out)))); have n1_ := Aside0.mk (below_step (by repeat (first | (with_reducible first | exact HB.out | apply below_alloc | apply pw_below_drewN | apply below_drew1) | exact HB.out)) hb); clear HB; have HO135 := n0_; have HB := n1_; clear n0_ n1_; (try clear hb); (try clear hb2); (try clear hk); (try clear hi); (try clear ho0); obtain ⟨Ao4, co4, eo4⟩ := Kd.R_slice HO135.out; subst eo4))
 go_loopg [3, 9] k (fun kq v3 v9 w' => ∃ (x3_1 : List (S44)) (x9_1 : Int), v9 = .int .i64 x9_1 ∧ Aside0 (words_All.l0 kq x3_1 t133 (t133.length : Int) x9_1 = some r) ∧ Aside0 (kq ≤ k) ∧ Aside0 (Kd.R k44 44 w' w.heap.size (fun _ => True) v3 x3_1) ∧ Aside0 (Kd.R k109 109 w' w.heap.size (fun _ => True) (.slice Ao4 t133.length co4) t133) ∧ Aside0 (Below w.heap.size w w'))
 case atStart => exact ⟨(([] : List (S44))), (0), (by first | rfl | (simp; done) | (simp [*]; done)), H', ⟨Nat.le_refl _⟩, ⟨by first | exact Kd.R_nil _ _ _ _ _ | exact Kd.N_nil _ _ _ _ _ | exact Kd.V_nil _ _ _ _ _ | exact Kd.Q_nil _ _ _ _ _ | exact Kd.S_nil _ _ _ _ _⟩, ⟨by (with_reducible repeat (first | apply Kd.R_alloc | apply Kd.R_drewN | apply Kd.R_drew)); exact HO135.out⟩, ⟨by repeat (first | (with_reducible first | exact HB.out | apply below_alloc | apply pw_below_drewN | apply below_drew1) | exact HB.out)⟩⟩
 case round =>
  clear H'
  try clear c2
  try clear p2
  obtain ⟨x3_1, x9_1, rfl, HA, HK1, HO_3, HO_7, HB⟩ := hrel
  cases gk with
  | zero => exact absurd HA.out (by simp [words_All.l0])
  | succ k1 =>
   have H := HA.out
   clear HA
   simp only [words_All.l0] at H
   by_cases c5 : x9_1 < (t133.length : Int)
   ·rw [if_pos c5] at H
    have c5b0 : decide (x9_1 < (t133.length : Int)) = true := decide_eq_true c5
    clear c5
    by_cases c6 : 0 ≤ x9_1
    ·rw [if_pos c6] at H
     have c6b0 : decide (0 ≤ x9_1) = true := decide_eq_true c6
     clear c6
     by_cases c7 : x9_1 < (t133.length : Int)
     ·rw [if_pos c7] at H
      have c7b0 : decide (x9_1 < (t133.length : Int)) = true := decide_eq_true c7
      clear c7
      by_cases c8 : ((rd_T109 t133 x9_1).f1) = 3
      ·rw [if_pos c8] at H
       have c8b0 : (((rd_T109 t133 x9_1).f1) == 3) = true := beq_iff_eq.mpr c8
       have c8b1 : (((rd_T109 t133 x9_1).f1) != 3) = false := bne_eq_false_iff_eq.mpr c8
       clear c8
       by_cases c9 : x3_1.length < 8796093022208
       ·rw [if_pos c9] at H
        have LMc9 := Aside0.mk c9
        clear c9
        obtain ⟨y138, hy138⟩ : ∃ y_ : List (S44), y_ = (x3_1 ++ [(⟨(rd_T109 t133 x9_1).f0.f0, (rd_T109 t133 x9_1).f0.f1⟩ : S44)]) := ⟨_, rfl⟩
        replace H : (words_All.l0 k1 y138 t133 (t133.length : Int) (wrap64 (x9_1 + 1))) = some r := by first | (rw [hy138]; with_reducible exact H) | (have H2_ := (Option.bind_some _ _).symm.trans H; rw [hy138]; with_reducible exact H2_) | (have H2_ := (Option.bind_some _ _).symm.trans H; with_reducible exact H2_) | with_reducible exact H | (rw [hy138]; exact H) | exact H
        have Ny138 := Aside0.mk hy138
        clear hy138
        have H' := Aside0.mk H
        clear H
        have p136 : 0 ≤ (x9_1 : Int) := of_decide_eq_true (by first | (with_reducible assumption) | assumption)
        have q136 : x9_1 < (t133.length : Int) := of_decide_eq_true (by first | (with_reducible assumption) | assumption)
        obtain ⟨ad136, e136, hx136_0, hx136_1, hx136_2⟩ := at_T109 (Kd.R_reads' HO_7.out).2.2 x9_1 p136 q136
        cases e136
        replace p136 := eq_true p136
        replace q136 := eq_true q136
        go_wp2_with (first | ((with_reducible refine gate_dst (N := 5) rfl ?_); refine box_event ?hg (N := 5) ?hd (cs := #[.int .i64 0, .int .i64 0, .int .i64 0]) (t := 109) ?hr ?_; (case hd => rfl); (case hg => rfl); (case hr => first | (go_simp; done) | (go_simp; rfl)); intro gb137 hg w10 hbox hb; have n0_ := Aside0.mk (Kd.R_below (by (with_reducible repeat (first | apply Kd.R_alloc | apply Kd.R_drewN | apply Kd.R_drew)); exact HO_3.out) hb); have n1_ := Aside0.mk (Kd.R_below (Kd.R_elderB (by (with_reducible repeat (first | apply Kd.R_alloc | apply Kd.R_drewN | apply Kd.R_drew)); exact HO_7.out) gb137 (Nat.le_of_eq hg.symm)) hb); have n2_ := Aside0.mk (below_step (by repeat (first | (with_reducible first | exact HB.out | apply below_alloc | apply pw_below_drewN | apply below_drew1) | exact HB.out)) hb); have n3_ := Aside0.mk (hbox); have n4_ := Aside0.mk ((by rw [hg]; exact (below_size (by repeat (first | (with_reducible first | exact HB.out | apply below_alloc | apply pw_below_drewN | apply below_drew1) | exact HB.out))) : w.heap.size ≤ gb137)); have n5_ := Aside0.mk ((by rw [hg]; exact (below_size (by repeat (first | (with_reducible first | exact HB.out | apply below_alloc | apply pw_below_drewN | apply below_drew1) | exact HB.out))) : w.heap.size ≤ gb137)); clear HO_3; clear HO_7; clear HB; have HO_3 := n0_; have HO_7 := n1_; have HB := n2_; have BK137 := n3_; have GW137 := n4_; have GE137 := n5_; clear n0_ n1_ n2_ n3_ n4_ n5_; clear hb hbox hg; have hcz11_0 : w10.cell? ⟨gb137, 0, none⟩ = some (.int .i64 0) := (blk_cell BK137.out 0).trans rfl; have hcz11_1 : w10.cell? ⟨gb137, 1, none⟩ = some (.int .i64 0) := (blk_cell BK137.out 1).trans rfl; have hcz11_2 : w10.cell? ⟨gb137, 2, none⟩ = some (.int .i64 0) := (blk_cell BK137.out 2).trans rfl; have hfz11_0 := blk_frozen BK137.out 0; have hfz11_1 := blk_frozen BK137.out 1; have hfz11_2 := blk_frozen BK137.out 2) | ((with_reducible refine gate_builtin (b := .append) (xs := #[.tmp 16, .tmp 19]) rfl ?_); at_builtin; refine Kd.R_append k44 (w0 := w) w.heap.size rfl (.tmp 16) (.tmp 19) 41 44 (.agg #[(.int .i64 0), (.int .i64 0)]) 16 rfl Tryd.underlying41 info44 rfl (by decide) (by omega) u3 x3_1 (⟨(rd_T109 t133 x9_1).f0.f0, (rd_T109 t133 x9_1).f0.f1⟩ : S44) [.int .i64 ((rd_T109 t133 x9_1).f0.f0), .int .i64 ((rd_T109 t133 x9_1).f0.f1)] (fun _ => True) (fun _ => False) rfl (by first | (go_simp; done) | (go_simp; rfl)) ?aP (fun _ hk => hk.elim) ?aF ?aO ?aB ?aS ?aL ?_; (case aP => exact k44_mkM _ _ _ (⟨(rd_T109 t133 x9_1).f0.f0, (rd_T109 t133 x9_1).f0.f1⟩ : S44)); (case aB => exact (by repeat (first | (with_reducible first | exact HB.out | apply below_alloc | apply pw_below_drewN | apply below_drew1 | refine below_set ?_ GE137.out) | exact HB.out))); (case aF => exact (fun _ _ => trivial)); (case aO => exact (by (with_reducible repeat (first | apply Kd.R_alloc | apply Kd.R_drewN | apply Kd.R_drew)); exact Kd.R_mono (Kd.R_far (p := ⟨gb137, 2, none⟩) (Kd.R_far (p := ⟨gb137, 1, none⟩) (Kd.R_far (p := ⟨gb137, 0, none⟩) (Kd.R_types HO_3.out BK137.out (by decide)) (fun _ hk => hk.2) (.int .i64 ((rd_T109 t133 x9_1).f0.f0))) (fun _ hk => hk.2) (.int .i64 ((rd_T109 t133 x9_1).f0.f1))) (fun _ hk => hk.2) (.int .i64 ((rd_T109 t133 x9_1).f1))) (fun _ hk => trivial))); (case aS => exact (below_size (by repeat (first | (with_reducible first | exact HB.out | apply below_alloc | apply pw_below_drewN | apply below_drew1 | refine below_set ?_ GE137.out) | exact HB.out)))); (case aL => have := LMc9.out; omega); intro v139 w12 ho hb hg hat; rw [← Ny138.out] at ho; have n0_ := Aside0.mk (Kd.R_over' (by (with_reducible repeat (first | apply Kd.R_alloc | apply Kd.R_drewN | apply Kd.R_drew)); exact (Kd.R_mono (Kd.R_far (p := ⟨gb137, 2, none⟩) (Kd.R_far (p := ⟨gb137, 1, none⟩) (Kd.R_far (p := ⟨gb137, 0, none⟩) (Kd.R_mono HO_7.out (fun k_ hk => (⟨hk, hk.2⟩ : _ ∧ k_ ≠ gb137))) (fun _ hk => hk.2) (.int .i64 ((rd_T109 t133 x9_1).f0.f0))) (fun _ hk => hk.2) (.int .i64 ((rd_T109 t133 x9_1).f0.f1))) (fun _ hk => hk.2) (.int .i64 ((rd_T109 t133 x9_1).f1))) (fun _ h_ => h_.1))) (Kd.R_typed (by (with_reducible repeat (first | apply Kd.R_alloc | apply Kd.R_drewN | apply Kd.R_drew)); exact (Kd.R_mono (Kd.R_far (p := ⟨gb137, 2, none⟩) (Kd.R_far (p := ⟨gb137, 1, none⟩) (Kd.R_far (p := ⟨gb137, 0, none⟩) (Kd.R_types HO_3.out BK137.out (by decide)) (fun _ hk => hk.2) (.int .i64 ((rd_T109 t133 x9_1).f0.f0))) (fun _ hk => hk.2) (.int .i64 ((rd_T109 t133 x9_1).f0.f1))) (fun _ hk => hk.2) (.int .i64 ((rd_T109 t133 x9_1).f1))) (fun _ h_ => h_.1)))) (by decide) hg); have n1_ := Aside0.mk (blk_grown (g := gb137) (o := .cells #[.int .i64 ((rd_T109 t133 x9_1).f0.f0), .int .i64 ((rd_T109 t133 x9_1).f0.f1), .int .i64 ((rd_T109 t133 x9_1).f1)] 109 (0, 0)) (by (with_reducible repeat (first | refine blk_drewN ?_ _ | refine blk_drew ?_ | refine blk_alloc ?_ _)); refine blk_put (cs := #[.int .i64 ((rd_T109 t133 x9_1).f0.f0), .int .i64 ((rd_T109 t133 x9_1).f0.f1), .int .i64 0]) ?_ 2 _ rfl; (with_reducible repeat (first | refine blk_drewN ?_ _ | refine blk_drew ?_ | refine blk_alloc ?_ _)); refine blk_put (cs := #[.int .i64 ((rd_T109 t133 x9_1).f0.f0), .int .i64 0, .int .i64 0]) ?_ 1 _ rfl; (with_reducible repeat (first | refine blk_drewN ?_ _ | refine blk_drew ?_ | refine blk_alloc ?_ _)); refine blk_put (cs := #[.int .i64 0, .int .i64 0, .int .i64 0]) ?_ 0 _ rfl; (with_reducible repeat (first | refine blk_drewN ?_ _ | refine blk_drew ?_ | refine blk_alloc ?_ _)); exact BK137.out) hg (Kd.R_ne HO_3.out BK137.out (by decide))); have n2_ := Aside0.mk (hb); have n3_ := Aside0.mk (ho); clear HO_7; clear BK137; clear HB; clear HO_3; have HO_7 := n0_; have BK137 := n1_; have HB := n2_; have HO140 := n3_; clear n0_ n1_ n2_ n3_; clear ho hb hg hat))
        go_roundg k1
        case measure => have := HK1.out; omega
        case rel => exact ⟨(y138), (wrap64 (x9_1 + 1)), (by first | rfl | (simp; done) | (simp [*]; done)), H', ⟨by have := HK1.out; omega⟩, ⟨by (with_reducible repeat (first | apply Kd.R_alloc | apply Kd.R_drewN | apply Kd.R_drew)); exact HO140.out⟩, ⟨by (with_reducible repeat (first | apply Kd.R_alloc | apply Kd.R_drewN | apply Kd.R_drew)); exact Kd.R_mono HO_7.out (fun _ hk => trivial)⟩, ⟨by repeat (first | (with_reducible first | exact HB.out | apply below_alloc | apply pw_below_drewN | apply below_drew1 | refine below_set ?_ GE137.out) | exact HB.out)⟩⟩
       ·rw [if_neg c9] at H
        exact absurd H (by simp)
      ·rw [if_neg c8] at H
       have c8b0 : (((rd_T109 t133 x9_1).f1) == 3) = false := beq_eq_false_iff_ne.mpr c8
       have c8b1 : (((rd_T109 t133 x9_1).f1) != 3) = true := bne_iff_ne.mpr c8
       have H' := Aside0.mk H
       clear H
       have p136 : 0 ≤ (x9_1 : Int) := of_decide_eq_true (by first | (with_reducible assumption) | assumption)
       have q136 : x9_1 < (t133.length : Int) := of_decide_eq_true (by first | (with_reducible assumption) | assumption)
       obtain ⟨ad136, e136, hx136_0, hx136_1, hx136_2⟩ := at_T109 (Kd.R_reads' HO_7.out).2.2 x9_1 p136 q136
       cases e136
       replace p136 := eq_true p136
       replace q136 := eq_true q136
       go_wp2_with (first | ((with_reducible refine gate_dst (N := 5) rfl ?_); refine box_event ?hg (N := 5) ?hd (cs := #[.int .i64 0, .int .i64 0, .int .i64 0]) (t := 109) ?hr ?_; (case hd => rfl); (case hg => rfl); (case hr => first | (go_simp; done) | (go_simp; rfl)); intro gb137 hg w13 hbox hb; have n0_ := Aside0.mk (Kd.R_below (by (with_reducible repeat (first | apply Kd.R_alloc | apply Kd.R_drewN | apply Kd.R_drew)); exact HO_3.out) hb); have n1_ := Aside0.mk (Kd.R_below (Kd.R_elderB (by (with_reducible repeat (first | apply Kd.R_alloc | apply Kd.R_drewN | apply Kd.R_drew)); exact HO_7.out) gb137 (Nat.le_of_eq hg.symm)) hb); have n2_ := Aside0.mk (below_step (by repeat (first | (with_reducible first | exact HB.out | apply below_alloc | apply pw_below_drewN | apply below_drew1) | exact HB.out)) hb); have n3_ := Aside0.mk (hbox); have n4_ := Aside0.mk ((by rw [hg]; exact (below_size (by repeat (first | (with_reducible first | exact HB.out | apply below_alloc | apply pw_below_drewN | apply below_drew1) | exact HB.out))) : w.heap.size ≤ gb137)); have n5_ := Aside0.mk ((by rw [hg]; exact (below_size (by repeat (first | (with_reducible first | exact HB.out | apply below_alloc | apply pw_below_drewN | apply below_drew1) | exact HB.out))) : w.heap.size ≤ gb137)); clear HO_3; clear HO_7; clear HB; have HO_3 := n0_; have HO_7 := n1_; have HB := n2_; have BK137 := n3_; have GW137 := n4_; have GE137 := n5_; clear n0_ n1_ n2_ n3_ n4_ n5_; clear hb hbox hg; have hcz14_0 : w13.cell? ⟨gb137, 0, none⟩ = some (.int .i64 0) := (blk_cell BK137.out 0).trans rfl; have hcz14_1 : w13.cell? ⟨gb137, 1, none⟩ = some (.int .i64 0) := (blk_cell BK137.out 1).trans rfl; have hcz14_2 : w13.cell? ⟨gb137, 2, none⟩ = some (.int .i64 0) := (blk_cell BK137.out 2).trans rfl; have hfz14_0 := blk_frozen BK137.out 0; have hfz14_1 := blk_frozen BK137.out 1; have hfz14_2 := blk_frozen BK137.out 2))
       go_roundg k1
       case measure => have := HK1.out; omega
       case rel => exact ⟨(x3_1), (wrap64 (x9_1 + 1)), (by first | rfl | (simp; done) | (simp [*]; done)), H', ⟨by have := HK1.out; omega⟩, ⟨by (with_reducible repeat (first | apply Kd.R_alloc | apply Kd.R_drewN | apply Kd.R_drew)); exact Kd.R_mono (Kd.R_far (p := ⟨gb137, 2, none⟩) (Kd.R_far (p := ⟨gb137, 1, none⟩) (Kd.R_far (p := ⟨gb137, 0, none⟩) (Kd.R_types HO_3.out BK137.out (by decide)) (fun _ hk => hk.2) (.int .i64 ((rd_T109 t133 x9_1).f0.f0))) (fun _ hk => hk.2) (.int .i64 ((rd_T109 t133 x9_1).f0.f1))) (fun _ hk => hk.2) (.int .i64 ((rd_T109 t133 x9_1).f1))) (fun _ hk => trivial)⟩, ⟨by (with_reducible repeat (first | apply Kd.R_alloc | apply Kd.R_drewN | apply Kd.R_drew)); exact Kd.R_mono (Kd.R_far (p := ⟨gb137, 2, none⟩) (Kd.R_far (p := ⟨gb137, 1, none⟩) (Kd.R_far (p := ⟨gb137, 0, none⟩) (Kd.R_mono HO_7.out (fun k_ hk => (⟨hk, hk.2⟩ : _ ∧ k_ ≠ gb137))) (fun _ hk => hk.2) (.int .i64 ((rd_T109 t133 x9_1).f0.f0))) (fun _ hk => hk.2) (.int .i64 ((rd_T109 t133 x9_1).f0.f1))) (fun _ hk => hk.2) (.int .i64 ((rd_T109 t133 x9_1).f1))) (fun _ hk => trivial)⟩, ⟨by repeat (first | (with_reducible first | exact HB.out | apply below_alloc | apply pw_below_drewN | apply below_drew1 | refine below_set ?_ GE137.out) | exact HB.out)⟩⟩
     ·rw [if_neg c7] at H
      exact absurd H (by simp)
    ·rw [if_neg c6] at H
     exact absurd H (by simp)
   ·rw [if_neg c5] at H
    have c5b0 : decide (x9_1 < (t133.length : Int)) = false := decide_eq_false c5
    clear c5
    obtain rfl := Option.some.inj H
    go_wp2
    go_ret
    exact ⟨_, by first | rfl | (simp [errW_none, errW_some] <;> rfl) | (simp [*, errW_none, errW_some] <;> rfl), by (with_reducible repeat (first | apply Kd.R_alloc | apply Kd.R_drewN | apply Kd.R_drew)); exact HO_3.out, by repeat (first | (with_reducible first | exact HB.out | apply below_alloc | apply pw_below_drewN | apply below_drew1) | exact HB.out)⟩

end Go.Proofs.YtijbkiajhicooabDoor.PW

namespace Go.Proofs.YtijbkiajhicooabDoor.PW
open Go.RowKit Go.Proofs.YtijbkiajhicooabDoorW.PrintWords Go.Proofs.YtijbkiajhicooabDoorW.PrintLast Go.Proofs.YtijbkiajhicooabDoorW.PrintMore
attribute [local go_sem] max2_int min2_int max_two min_two max_three min_three max_four min_four   -- for this text's walks alone
set_option linter.unusedVariables false
set_option linter.unusedSimpArgs false

def words_Next.l0 : Nat → List Int → Int → List (S44) → Int → Int → Option (Int × Int)
 | 0, _, _, _, _, _ => none
 | k + 1, x0, x1, x12, x13, x14 => if x14 < x13 then (if 0 ≤ x14 then (if x14 < (x12.length : Int) then (if ((rd_T44 x12 x14).f0) > x1 then (some ((rd_T44 x12 x14).f0, 0)) else (words_Next.l0 k x0 x1 x12 x13 (wrap64 (x14 + 1)))) else (none)) else (none)) else (some ((x0.length : Int), 0))
def words_Next.f (k : Nat) (l0 : List Int) (a1 : Int) : Option (Int × Int) := (words_outside.f l0 a1).bind fun t176 => (if t176 = true then (some (0, 2)) else ((words_All.f k l0).bind fun t177 => (words_Next.l0 k l0 a1 t177 (t177.length : Int) 0)))
set_option maxHeartbeats 8000000 in
set_option maxRecDepth 100000 in
theorem words_Next.calls (k : Nat) (A0 : Option Addr) (c0 : Nat) (l0 : List Int) (a1 : Int) (r1 : Int) (r2 : Int) (w : World) (hr0 : Kd.C (Kd.int .u8) w A0 l0.length l0) (hc0 : l0.length ≤ c0) (hL : LaidBad w) (h : words_Next.f k l0 a1 = some (r1, r2)) :
  Calls Tryd.prog 47 #[.slice A0 l0.length c0, .int .i64 a1] w fun e w' => e = .returned (.tuple #[.int .i64 r1, .int .i64 r2]) ∧ Below w.heap.size w w' := by
 have hu44 := Tryd.underlying44
 have HR0 := Aside0.mk hr0
 have HC0 := Aside0.mk hc0
 clear hr0 hc0
 have HB := Aside0.mk (Below.refl w.heap.size w)
 have HLB := Aside0.mk hL
 clear hL
 have H : ((words_outside.f l0 a1).bind fun t176 => (if t176 = true then (some (0, 2)) else ((words_All.f k l0).bind fun t177 => (words_Next.l0 k l0 a1 t177 (t177.length : Int) 0)))) = some (r1, r2) := h
 clear h
 replace H := Option.bind_eq_some_iff.mp H
 obtain ⟨t176, A30, H⟩ := H
 replace H : (if t176 = true then (some (0, 2)) else ((words_All.f k l0).bind fun t177 => (words_Next.l0 k l0 a1 t177 (t177.length : Int) 0))) = some (r1, r2) := H
 have A3 := Aside0.mk A30
 clear A30
 by_cases c4 : t176 = true
 ·subst c4
  have H1 : (some (0, 2)) = some (r1, r2) := by rw [if_pos rfl] at H; exact H
  clear H
  have H := H1
  clear H1
  simp only [Option.some.injEq, Prod.mk.injEq] at H
  obtain ⟨rfl, rfl⟩ := H
  go_enter Tryd.func47, Tryd.ntmps47
  go_wp2_with (first | ((with_reducible refine gate_callee (f := 51) rfl ?_); refine goesL_ (some 10) rfl rfl Tryd.func51 (by kernel_rfl) rfl #[.slice A0 l0.length c0, .int .i64 a1] rfl (by (try simp only [List.map_toArray, List.map_cons, List.map_nil]); first | done | rfl | (simp only [List.length_drop, List.length_take]; rfl)) ?_; (with_reducible refine (words_outside.calls _ _ l0 a1 true _ ?side1 ?side2 A3.out).mono ?_); (case side1 => repeat (first | exact HR0.out | (with_reducible refine Kd.C_alloc ?_ _) | (with_reducible refine Kd.C_drewN ?_ _) | (with_reducible refine Kd.C_drew ?_))); (case side2 => exact HC0.out); rintro e w' ⟨rfl, ⟨nd, rfl⟩⟩; refine ⟨_, rfl, ?_⟩))
  go_ret2
  exact ⟨by first | rfl | (simp [errW_none, errW_some] <;> rfl) | (simp [*, errW_none, errW_some] <;> rfl), by repeat (first | (with_reducible first | exact HB.out | apply below_alloc | apply pw_below_drewN | apply below_drew1) | exact HB.out)⟩
 ·replace c4 := Bool.eq_false_iff.mpr c4
  subst c4
  have H1 : ((words_All.f k l0).bind fun t177 => (words_Next.l0 k l0 a1 t177 (t177.length : Int) 0)) = some (r1, r2) := by rw [if_neg (show ¬ (false = true) by decide)] at H; exact H
  clear H
  have H := H1
  clear H1
  replace H := Option.bind_eq_some_iff.mp H
  obtain ⟨t177, A50, H⟩ := H
  replace H : (words_Next.l0 k l0 a1 t177 (t177.length : Int) 0) = some (r1, r2) := H
  have A5 := Aside0.mk A50
  clear A50
  have H' := Aside0.mk H
  clear H
  go_enter Tryd.func47, Tryd.ntmps47
  go_wp2_with (first | ((with_reducible refine gate_callee (f := 51) rfl ?_); refine goesL_ (some 10) rfl rfl Tryd.func51 (by kernel_rfl) rfl #[.slice A0 l0.length c0, .int .i64 a1] rfl (by (try simp only [List.map_toArray, List.map_cons, List.map_nil]); first | done | rfl | (simp only [List.length_drop, List.length_take]; rfl)) ?_; (with_reducible refine (words_outside.calls _ _ l0 a1 false _ ?side1 ?side2 A3.out).mono ?_); (case side1 => repeat (first | exact HR0.out | (with_reducible refine Kd.C_alloc ?_ _) | (with_reducible refine Kd.C_drewN ?_ _) | (with_reducible refine Kd.C_drew ?_))); (case side2 => exact HC0.out); rintro e w' ⟨rfl, ⟨nd, rfl⟩⟩; refine ⟨_, rfl, ?_⟩) | ((with_reducible refine gate_callee (f := 25) rfl ?_); refine goesL_ (some 12) rfl rfl Tryd.func25 (by kernel_rfl) rfl #[.slice A0 l0.length c0] rfl (by (try simp only [List.map_toArray, List.map_cons, List.map_nil]); first | done | rfl | (simp only [List.length_drop, List.length_take]; rfl)) ?_; (with_reducible refine (words_All.calls k _ _ l0 t177 _ ?side1 ?side2 ?side3 A5.out).mono ?_); (case side1 => repeat (first | exact HR0.out | (with_reducible refine Kd.C_alloc ?_ _) | (with_reducible refine Kd.C_drewN ?_ _) | (with_reducible refine Kd.C_drew ?_))); (case side2 => exact HC0.out); (case side3 => exact laid_below HLB.out (by repeat (first | (with_reducible first | exact HB.out | apply below_alloc | apply pw_below_drewN | apply below_drew1) | exact HB.out))); rintro e w6 ⟨v178, rfl, ho0, hb⟩; refine ⟨_, rfl, ?_⟩; have n0_ := Aside0.mk (Kd.R_lower ho0 (below_size (by repeat (first | (with_reducible first | exact HB.out | apply below_alloc | apply pw_below_drewN | apply below_drew1) | exact HB.out)))); have n1_ := Aside0.mk (below_step (by repeat (first | (with_reducible first | exact HB.out | apply below_alloc | apply pw_below_drewN | apply below_drew1) | exact HB.out)) hb); clear HB; have HO179 := n0_; have HB := n1_; clear n0_ n1_; (try clear hb); (try clear hb2); (try clear hk); (try clear hi); (try clear ho0); obtain ⟨Ao7, co7, eo7⟩ := Kd.R_slice HO179.out; subst eo7))
  go_loopg [14] k (fun kq v14 w' => ∃ (x14_1 : Int), v14 = .int .i64 x14_1 ∧ Aside0 (words_Next.l0 kq l0 a1 t177 (t177.length : Int) x14_1 = some (r1, r2)) ∧ Aside0 (kq ≤ k) ∧ Aside0 (Kd.R k44 44 w' w.heap.size (fun _ => True) (.slice Ao7 t177.length co7) t177) ∧ Aside0 (Below w.heap.size w w'))
  case atStart => exact ⟨(0), (by first | rfl | (simp; done) | (simp [*]; done)), H', ⟨Nat.le_refl _⟩, ⟨by (with_reducible repeat (first | apply Kd.R_alloc | apply Kd.R_drewN | apply Kd.R_drew)); exact HO179.out⟩, ⟨by repeat (first | (with_reducible first | exact HB.out | apply below_alloc | apply pw_below_drewN | apply below_drew1) | exact HB.out)⟩⟩
  case round =>
   clear H'
   try clear c2
   try clear p2
   try clear c4
   try clear c5
   obtain ⟨x14_1, rfl, HA, HK1, HO_12, HB⟩ := hrel
   cases gk with
   | zero => exact absurd HA.out (by simp [words_Next.l0])
   | succ k1 =>
    have H := HA.out
    clear HA
    simp only [words_Next.l0] at H
    by_cases c8 : x14_1 < (t177.length : Int)
    ·rw [if_pos c8] at H
     have c8b0 : decide (x14_1 < (t177.length : Int)) = true := decide_eq_true c8
     clear c8
     by_cases c9 : 0 ≤ x14_1
     ·rw [if_pos c9] at H
      have c9b0 : decide (0 ≤ x14_1) = true := decide_eq_true c9
      clear c9
      by_cases c10 : x14_1 < (t177.length : Int)
      ·rw [if_pos c10] at H
       have c10b0 : decide (x14_1 < (t177.length : Int)) = true := decide_eq_true c10
       clear c10
       by_cases c11 : ((rd_T44 t177 x14_1).f0) > a1
       ·rw [if_pos c11] at H
        have c11b0 : decide (a1 < ((rd_T44 t177 x14_1).f0)) = true := decide_eq_true c11
        clear c11
        simp only [Option.some.injEq, Prod.mk.injEq] at H
        obtain ⟨rfl, rfl⟩ := H
        have p180 : 0 ≤ (x14_1 : Int) := of_decide_eq_true (by first | (with_reducible assumption) | assumption)
        have q180 : x14_1 < (t177.length : Int) := of_decide_eq_true (by first | (with_reducible assumption) | assumption)
        obtain ⟨ad180, e180, hx180_0, hx180_1⟩ := at_T44 (Kd.R_reads' HO_12.out).2.2 x14_1 p180 q180
        cases e180
        replace p180 := eq_true p180
        replace q180 := eq_true q180
        go_wp2_with (first | ((with_reducible refine gate_dst (N := 7) rfl ?_); refine box_event ?hg (N := 7) ?hd (cs := #[.int .i64 0, .int .i64 0]) (t := 44) ?hr ?_; (case hd => rfl); (case hg => rfl); (case hr => first | (go_simp; done) | (go_simp; rfl)); intro gb181 hg w12 hbox hb; have n0_ := Aside0.mk (Kd.R_below (Kd.R_elderB (by (with_reducible repeat (first | apply Kd.R_alloc | apply Kd.R_drewN | apply Kd.R_drew)); exact HO_12.out) gb181 (Nat.le_of_eq hg.symm)) hb); have n1_ := Aside0.mk (below_step (by repeat (first | (with_reducible first | exact HB.out | apply below_alloc | apply pw_below_drewN | apply below_drew1) | exact HB.out)) hb); have n2_ := Aside0.mk (hbox); have n3_ := Aside0.mk ((by rw [hg]; exact (below_size (by repeat (first | (with_reducible first | exact HB.out | apply below_alloc | apply pw_below_drewN | apply below_drew1) | exact HB.out))) : w.heap.size ≤ gb181)); have n4_ := Aside0.mk ((by rw [hg]; exact (below_size (by repeat (first | (with_reducible first | exact HB.out | apply below_alloc | apply pw_below_drewN | apply below_drew1) | exact HB.out))) : w.heap.size ≤ gb181)); clear HO_12; clear HB; have HO_12 := n0_; have HB := n1_; have BK181 := n2_; have GW181 := n3_; have GE181 := n4_; clear n0_ n1_ n2_ n3_ n4_; clear hb hbox hg; have hcz13_0 : w12.cell? ⟨gb181, 0, none⟩ = some (.int .i64 0) := (blk_cell BK181.out 0).trans rfl; have hcz13_1 : w12.cell? ⟨gb181, 1, none⟩ = some (.int .i64 0) := (blk_cell BK181.out 1).trans rfl; have hfz13_0 := blk_frozen BK181.out 0; have hfz13_1 := blk_frozen BK181.out 1))
        go_ret2
        exact ⟨by first | rfl | (simp [errW_none, errW_some] <;> rfl) | (simp [*, errW_none, errW_some] <;> rfl), by repeat (first | (with_reducible first | exact HB.out | apply below_alloc | apply pw_below_drewN | apply below_drew1 | refine below_set ?_ GE181.out) | exact HB.out)⟩
       ·rw [if_neg c11] at H
        have c11b0 : decide (a1 < ((rd_T44 t177 x14_1).f0)) = false := decide_eq_false c11
        clear c11
        have H' := Aside0.mk H
        clear H
        have p180 : 0 ≤ (x14_1 : Int) := of_decide_eq_true (by first | (with_reducible assumption) | assumption)
        have q180 : x14_1 < (t177.length : Int) := of_decide_eq_true (by first | (with_reducible assumption) | assumption)
        obtain ⟨ad180, e180, hx180_0, hx180_1⟩ := at_T44 (Kd.R_reads' HO_12.out).2.2 x14_1 p180 q180
        cases e180
        replace p180 := eq_true p180
        replace q180 := eq_true q180
        go_wp2_with (first | ((with_reducible refine gate_dst (N := 7) rfl ?_); refine box_event ?hg (N := 7) ?hd (cs := #[.int .i64 0, .int .i64 0]) (t := 44) ?hr ?_; (case hd => rfl); (case hg => rfl); (case hr => first | (go_simp; done) | (go_simp; rfl)); intro gb181 hg w14 hbox hb; have n0_ := Aside0.mk (Kd.R_below (Kd.R_elderB (by (with_reducible repeat (first | apply Kd.R_alloc | apply Kd.R_drewN | apply Kd.R_drew)); exact HO_12.out) gb181 (Nat.le_of_eq hg.symm)) hb); have n1_ := Aside0.mk (below_step (by repeat (first | (with_reducible first | exact HB.out | apply below_alloc | apply pw_below_drewN | apply below_drew1) | exact HB.out)) hb); have n2_ := Aside0.mk (hbox); have n3_ := Aside0.mk ((by rw [hg]; exact (below_size (by repeat (first | (with_reducible first | exact HB.out | apply below_alloc | apply pw_below_drewN | apply below_drew1) | exact HB.out))) : w.heap.size ≤ gb181)); have n4_ := Aside0.mk ((by rw [hg]; exact (below_size (by repeat (first | (with_reducible first | exact HB.out | apply below_alloc | apply pw_below_drewN | apply below_drew1) | exact HB.out))) : w.heap.size ≤ gb181)); clear HO_12; clear HB; have HO_12 := n0_; have HB := n1_; have BK181 := n2_; have GW181 := n3_; have GE181 := n4_; clear n0_ n1_ n2_ n3_ n4_; clear hb hbox hg; have hcz15_0 : w14.cell? ⟨gb181, 0, none⟩ = some (.int .i64 0) := (blk_cell BK181.out 0).trans rfl; have hcz15_1 : w14.cell? ⟨gb181, 1, none⟩ = some (.int .i64 0) := (blk_cell BK181.out 1).trans rfl; have hfz15_0 := blk_frozen BK181.out 0; have hfz15_1 := blk_frozen BK181.out 1))
        go_roundg k1
        case measure => have := HK1.out; omega
        case rel => exact ⟨(wrap64 (x14_1 + 1)), (by first | rfl | (simp; done) | (simp [*]; done)), H', ⟨by have := HK1.out; omega⟩, ⟨by (with_reducible repeat (first | apply Kd.R_alloc | apply Kd.R_drewN | apply Kd.R_drew)); exact Kd.R_mono (Kd.R_far (p := ⟨gb181, 1, none⟩) (Kd.R_far (p := ⟨gb181, 0, none⟩) (Kd.R_mono HO_12.out (fun k_ hk => (⟨hk, hk.2⟩ : _ ∧ k_ ≠ gb181))) (fun _ hk => hk.2) (.int .i64 ((rd_T44 t177 x14_1).f0))) (fun _ hk => hk.2) (.int .i64 ((rd_T44 t177 x14_1).f1))) (fun _ hk => trivial)⟩, ⟨by repeat (first | (with_reducible first | exact HB.out | apply below_alloc | apply pw_below_drewN | apply below_drew1 | refine below_set ?_ GE181.out) | exact HB.out)⟩⟩
      ·rw [if_neg c10] at H
       exact absurd H (by simp)
     ·rw [if_neg c9] at H
      exact absurd H (by simp)
    ·rw [if_neg c8] at H
     have c8b0 : decide (x14_1 < (t177.length : Int)) = false := decide_eq_false c8
     clear c8
     simp only [Option.some.injEq, Prod.mk.injEq] at H
     obtain ⟨rfl, rfl⟩ := H
     go_wp2
     go_ret2
     exact ⟨by first | rfl | (simp [errW_none, errW_some] <;> rfl) | (simp [*, errW_none, errW_some] <;> rfl), by repeat (first | (with_reducible first | exact HB.out | apply below_alloc | apply pw_below_drewN | apply below_drew1) | exact HB.out)⟩

end Go.Proofs.YtijbkiajhicooabDoor.PW

namespace Go.Proofs.YtijbkiajhicooabDoor.PW
open Go.RowKit Go.Proofs.YtijbkiajhicooabDoorW.PrintWords Go.Proofs.YtijbkiajhicooabDoorW.PrintLast Go.Proofs.YtijbkiajhicooabDoorW.PrintMore
attribute [local go_sem] max2_int min2_int max_two min_two max_three min_three max_four min_four   -- for this text's walks alone
set_option linter.unusedVariables false
set_option linter.unusedSimpArgs false

def words_Prev.l0 : Nat → Int → Int → List (S44) → Int → Int → Option (Int × Int)
 | 0, _, _, _, _, _ => none
 | k + 1, x1, x6, x13, x14, x15 => if x15 < x14 then (if 0 ≤ x15 then (if x15 < (x13.length : Int) then (if ((rd_T44 x13 x15).f0) < x1 then (words_Prev.l0 k x1 ((rd_T44 x13 x15).f0) x13 x14 (wrap64 (x15 + 1))) else (words_Prev.l0 k x1 x6 x13 x14 (wrap64 (x15 + 1)))) else (none)) else (none)) else (some (x6, 0))
def words_Prev.f (k : Nat) (l0 : List Int) (a1 : Int) : Option (Int × Int) := (words_outside.f l0 a1).bind fun t182 => (if t182 = true then (some (0, 2)) else ((words_All.f k l0).bind fun t183 => (words_Prev.l0 k a1 0 t183 (t183.length : Int) 0)))
set_option maxHeartbeats 8000000 in
set_option maxRecDepth 100000 in
theorem words_Prev.calls (k : Nat) (A0 : Option Addr) (c0 : Nat) (l0 : List Int) (a1 : Int) (r1 : Int) (r2 : Int) (w : World) (hr0 : Kd.C (Kd.int .u8) w A0 l0.length l0) (hc0 : l0.length ≤ c0) (hL : LaidBad w) (h : words_Prev.f k l0 a1 = some (r1, r2)) :
  Calls Tryd.prog 48 #[.slice A0 l0.length c0, .int .i64 a1] w fun e w' => e = .returned (.tuple #[.int .i64 r1, .int .i64 r2]) ∧ Below w.heap.size w w' := by
 have hu44 := Tryd.underlying44
 have HR0 := Aside0.mk hr0
 have HC0 := Aside0.mk hc0
 clear hr0 hc0
 have HB := Aside0.mk (Below.refl w.heap.size w)
 have HLB := Aside0.mk hL
 clear hL
 have H : ((words_outside.f l0 a1).bind fun t182 => (if t182 = true then (some (0, 2)) else ((words_All.f k l0).bind fun t183 => (words_Prev.l0 k a1 0 t183 (t183.length : Int) 0)))) = some (r1, r2) := h
 clear h
 replace H := Option.bind_eq_some_iff.mp H
 obtain ⟨t182, A30, H⟩ := H
 replace H : (if t182 = true then (some (0, 2)) else ((words_All.f k l0).bind fun t183 => (words_Prev.l0 k a1 0 t183 (t183.length : Int) 0))) = some (r1, r2) := H
 have A3 := Aside0.mk A30
 clear A30
 by_cases c4 : t182 = true
 ·subst c4
  have H1 : (some (0, 2)) = some (r1, r2) := by rw [if_pos rfl] at H; exact H
  clear H
  have H := H1
  clear H1
  simp only [Option.some.injEq, Prod.mk.injEq] at H
  obtain ⟨rfl, rfl⟩ := H
  go_enter Tryd.func48, Tryd.ntmps48
  go_wp2_with (first | ((with_reducible refine gate_callee (f := 51) rfl ?_); refine goesL_ (some 11) rfl rfl Tryd.func51 (by kernel_rfl) rfl #[.slice A0 l0.length c0, .int .i64 a1] rfl (by (try simp only [List.map_toArray, List.map_cons, List.map_nil]); first | done | rfl | (simp only [List.length_drop, List.length_take]; rfl)) ?_; (with_reducible refine (words_outside.calls _ _ l0 a1 true _ ?side1 ?side2 A3.out).mono ?_); (case side1 => repeat (first | exact HR0.out | (with_reducible refine Kd.C_alloc ?_ _) | (with_reducible refine Kd.C_drewN ?_ _) | (with_reducible refine Kd.C_drew ?_))); (case side2 => exact HC0.out); rintro e w' ⟨rfl, ⟨nd, rfl⟩⟩; refine ⟨_, rfl, ?_⟩))
  go_ret2
  exact ⟨by first | rfl | (simp [errW_none, errW_some] <;> rfl) | (simp [*, errW_none, errW_some] <;> rfl), by repeat (first | (with_reducible first | exact HB.out | apply below_alloc | apply pw_below_drewN | apply below_drew1) | exact HB.out)⟩
 ·replace c4 := Bool.eq_false_iff.mpr c4
  subst c4
  have H1 : ((words_All.f k l0).bind fun t183 => (words_Prev.l0 k a1 0 t183 (t183.length : Int) 0)) = some (r1, r2) := by rw [if_neg (show ¬ (false = true) by decide)] at H; exact H
  clear H
  have H := H1
  clear H1
  replace H := Option.bind_eq_some_iff.mp H
  obtain ⟨t183, A50, H⟩ := H
  replace H : (words_Prev.l0 k a1 0 t183 (t183.length : Int) 0) = some (r1, r2) := H
  have A5 := Aside0.mk A50
  clear A50
  have H' := Aside0.mk H
  clear H
  go_enter Tryd.func48, Tryd.ntmps48
  go_wp2_with (first | ((with_reducible refine gate_callee (f := 51) rfl ?_); refine goesL_ (some 11) rfl rfl Tryd.func51 (by kernel_rfl) rfl #[.slice A0 l0.length c0, .int .i64 a1] rfl (by (try simp only [List.map_toArray, List.map_cons, List.map_nil]); first | done | rfl | (simp only [List.length_drop, List.length_take]; rfl)) ?_; (with_reducible refine (words_outside.calls _ _ l0 a1 false _ ?side1 ?side2 A3.out).mono ?_); (case side1 => repeat (first | exact HR0.out | (with_reducible refine Kd.C_alloc ?_ _) | (with_reducible refine Kd.C_drewN ?_ _) | (with_reducible refine Kd.C_drew ?_))); (case side2 => exact HC0.out); rintro e w' ⟨rfl, ⟨nd, rfl⟩⟩; refine ⟨_, rfl, ?_⟩) | ((with_reducible refine gate_callee (f := 25) rfl ?_); refine goesL_ (some 13) rfl rfl Tryd.func25 (by kernel_rfl) rfl #[.slice A0 l0.length c0] rfl (by (try simp only [List.map_toArray, List.map_cons, List.map_nil]); first | done | rfl | (simp only [List.length_drop, List.length_take]; rfl)) ?_; (with_reducible refine (words_All.calls k _ _ l0 t183 _ ?side1 ?side2 ?side3 A5.out).mono ?_); (case side1 => repeat (first | exact HR0.out | (with_reducible refine Kd.C_alloc ?_ _) | (with_reducible refine Kd.C_drewN ?_ _) | (with_reducible refine Kd.C_drew ?_))); (case side2 => exact HC0.out); (case side3 => exact laid_below HLB.out (by repeat (first | (with_reducible first | exact HB.out | apply below_alloc | apply pw_below_drewN | apply below_drew1) | exact HB.out))); rintro e w6 ⟨v184, rfl, ho0, hb⟩; refine ⟨_, rfl, ?_⟩; have n0_ := Aside0.mk (Kd.R_lower ho0 (below_size (by repeat (first | (with_reducible first | exact HB.out | apply below_alloc | apply pw_below_drewN | apply below_drew1) | exact HB.out)))); have n1_ := Aside0.mk (below_step (by repeat (first | (with_reducible first | exact HB.out | apply below_alloc | apply pw_below_drewN | apply below_drew1) | exact HB.out)) hb); clear HB; have HO185 := n0_; have HB := n1_; clear n0_ n1_; (try clear hb); (try clear hb2); (try clear hk); (try clear hi); (try clear ho0); obtain ⟨Ao7, co7, eo7⟩ := Kd.R_slice HO185.out; subst eo7))
  go_loopg [6, 15] k (fun kq v6 v15 w' => ∃ (x6_1 : Int) (x15_1 : Int), v6 = .int .i64 x6_1 ∧ v15 = .int .i64 x15_1 ∧ Aside0 (words_Prev.l0 kq a1 x6_1 t183 (t183.length : Int) x15_1 = some (r1, r2)) ∧ Aside0 (kq ≤ k) ∧ Aside0 (Kd.R k44 44 w' w.heap.size (fun _ => True) (.slice Ao7 t183.length co7) t183) ∧ Aside0 (Below w.heap.size w w'))
  case atStart => exact ⟨(0), (0), (by first | rfl | (simp; done) | (simp [*]; done)), (by first | rfl | (simp; done) | (simp [*]; done)), H', ⟨Nat.le_refl _⟩, ⟨by (with_reducible repeat (first | apply Kd.R_alloc | apply Kd.R_drewN | apply Kd.R_drew)); exact HO185.out⟩, ⟨by repeat (first | (with_reducible first | exact HB.out | apply below_alloc | apply pw_below_drewN | apply below_drew1) | exact HB.out)⟩⟩
  case round =>
   clear H'
   try clear c2
   try clear p2
   try clear c4
   try clear c5
   obtain ⟨x6_1, x15_1, rfl, rfl, HA, HK1, HO_13, HB⟩ := hrel
   cases gk with
   | zero => exact absurd HA.out (by simp [words_Prev.l0])
   | succ k1 =>
    have H := HA.out
    clear HA
    simp only [words_Prev.l0] at H
    by_cases c8 : x15_1 < (t183.length : Int)
    ·rw [if_pos c8] at H
     have c8b0 : decide (x15_1 < (t183.length : Int)) = true := decide_eq_true c8
     clear c8
     by_cases c9 : 0 ≤ x15_1
     ·rw [if_pos c9] at H
      have c9b0 : decide (0 ≤ x15_1) = true := decide_eq_true c9
      clear c9
      by_cases c10 : x15_1 < (t183.length : Int)
      ·rw [if_pos c10] at H
       have c10b0 : decide (x15_1 < (t183.length : Int)) = true := decide_eq_true c10
       clear c10
       by_cases c11 : ((rd_T44 t183 x15_1).f0) < a1
       ·rw [if_pos c11] at H
        have c11b0 : decide (((rd_T44 t183 x15_1).f0) < a1) = true := decide_eq_true c11
        clear c11
        have H' := Aside0.mk H
        clear H
        have p186 : 0 ≤ (x15_1 : Int) := of_decide_eq_true (by first | (with_reducible assumption) | assumption)
        have q186 : x15_1 < (t183.length : Int) := of_decide_eq_true (by first | (with_reducible assumption) | assumption)
        obtain ⟨ad186, e186, hx186_0, hx186_1⟩ := at_T44 (Kd.R_reads' HO_13.out).2.2 x15_1 p186 q186
        cases e186
        replace p186 := eq_true p186
        replace q186 := eq_true q186
        go_wp2_with (first | ((with_reducible refine gate_dst (N := 8) rfl ?_); refine box_event ?hg (N := 8) ?hd (cs := #[.int .i64 0, .int .i64 0]) (t := 44) ?hr ?_; (case hd => rfl); (case hg => rfl); (case hr => first | (go_simp; done) | (go_simp; rfl)); intro gb187 hg w12 hbox hb; have n0_ := Aside0.mk (Kd.R_below (Kd.R_elderB (by (with_reducible repeat (first | apply Kd.R_alloc | apply Kd.R_drewN | apply Kd.R_drew)); exact HO_13.out) gb187 (Nat.le_of_eq hg.symm)) hb); have n1_ := Aside0.mk (below_step (by repeat (first | (with_reducible first | exact HB.out | apply below_alloc | apply pw_below_drewN | apply below_drew1) | exact HB.out)) hb); have n2_ := Aside0.mk (hbox); have n3_ := Aside0.mk ((by rw [hg]; exact (below_size (by repeat (first | (with_reducible first | exact HB.out | apply below_alloc | apply pw_below_drewN | apply below_drew1) | exact HB.out))) : w.heap.size ≤ gb187)); have n4_ := Aside0.mk ((by rw [hg]; exact (below_size (by repeat (first | (with_reducible first | exact HB.out | apply below_alloc | apply pw_below_drewN | apply below_drew1) | exact HB.out))) : w.heap.size ≤ gb187)); clear HO_13; clear HB; have HO_13 := n0_; have HB := n1_; have BK187 := n2_; have GW187 := n3_; have GE187 := n4_; clear n0_ n1_ n2_ n3_ n4_; clear hb hbox hg; have hcz13_0 : w12.cell? ⟨gb187, 0, none⟩ = some (.int .i64 0) := (blk_cell BK187.out 0).trans rfl; have hcz13_1 : w12.cell? ⟨gb187, 1, none⟩ = some (.int .i64 0) := (blk_cell BK187.out 1).trans rfl; have hfz13_0 := blk_frozen BK187.out 0; have hfz13_1 := blk_frozen BK187.out 1))
        go_roundg k1
        case measure => have := HK1.out; omega
        case rel => exact ⟨((rd_T44 t183 x15_1).f0), (wrap64 (x15_1 + 1)), (by first | rfl | (simp; done) | (simp [*]; done)), (by first | rfl | (simp; done) | (simp [*]; done)), H', ⟨by have := HK1.out; omega⟩, ⟨by (with_reducible repeat (first | apply Kd.R_alloc | apply Kd.R_drewN | apply Kd.R_drew)); exact Kd.R_mono (Kd.R_far (p := ⟨gb187, 1, none⟩) (Kd.R_far (p := ⟨gb187, 0, none⟩) (Kd.R_mono HO_13.out (fun k_ hk => (⟨hk, hk.2⟩ : _ ∧ k_ ≠ gb187))) (fun _ hk => hk.2) (.int .i64 ((rd_T44 t183 x15_1).f0))) (fun _ hk => hk.2) (.int .i64 ((rd_T44 t183 x15_1).f1))) (fun _ hk => trivial)⟩, ⟨by repeat (first | (with_reducible first | exact HB.out | apply below_alloc | apply pw_below_drewN | apply below_drew1 | refine below_set ?_ GE187.out) | exact HB.out)⟩⟩
       ·rw [if_neg c11] at H
        have c11b0 : decide (((rd_T44 t183 x15_1).f0) < a1) = false := decide_eq_false c11
        clear c11
        have H' := Aside0.mk H
        clear H
        have p186 : 0 ≤ (x15_1 : Int) := of_decide_eq_true (by first | (with_reducible assumption) | assumption)
        have q186 : x15_1 < (t183.length : Int) := of_decide_eq_true (by first | (with_reducible assumption) | assumption)
        obtain ⟨ad186, e186, hx186_0, hx186_1⟩ := at_T44 (Kd.R_reads' HO_13.out).2.2 x15_1 p186 q186
        cases e186
        replace p186 := eq_true p186
        replace q186 := eq_true q186
        go_wp2_with (first | ((with_reducible refine gate_dst (N := 8) rfl ?_); refine box_event ?hg (N := 8) ?hd (cs := #[.int .i64 0, .int .i64 0]) (t := 44) ?hr ?_; (case hd => rfl); (case hg => rfl); (case hr => first | (go_simp; done) | (go_simp; rfl)); intro gb187 hg w14 hbox hb; have n0_ := Aside0.mk (Kd.R_below (Kd.R_elderB (by (with_reducible repeat (first | apply Kd.R_alloc | apply Kd.R_drewN | apply Kd.R_drew)); exact HO_13.out) gb187 (Nat.le_of_eq hg.symm)) hb); have n1_ := Aside0.mk (below_step (by repeat (first | (with_reducible first | exact HB.out | apply below_alloc | apply pw_below_drewN | apply below_drew1) | exact HB.out)) hb); have n2_ := Aside0.mk (hbox); have n3_ := Aside0.mk ((by rw [hg]; exact (below_size (by repeat (first | (with_reducible first | exact HB.out | apply below_alloc | apply pw_below_drewN | apply below_drew1) | exact HB.out))) : w.heap.size ≤ gb187)); have n4_ := Aside0.mk ((by rw [hg]; exact (below_size (by repeat (first | (with_reducible first | exact HB.out | apply below_alloc | apply pw_below_drewN | apply below_drew1) | exact HB.out))) : w.heap.size ≤ gb187)); clear HO_13; clear HB; have HO_13 := n0_; have HB := n1_; have BK187 := n2_; have GW187 := n3_; have GE187 := n4_; clear n0_ n1_ n2_ n3_ n4_; clear hb hbox hg; have hcz15_0 : w14.cell? ⟨gb187, 0, none⟩ = some (.int .i64 0) := (blk_cell BK187.out 0).trans rfl; have hcz15_1 : w14.cell? ⟨gb187, 1, none⟩ = some (.int .i64 0) := (blk_cell BK187.out 1).trans rfl; have hfz15_0 := blk_frozen BK187.out 0; have hfz15_1 := blk_frozen BK187.out 1))
        go_roundg k1
        case measure => have := HK1.out; omega
        case rel => exact ⟨(x6_1), (wrap64 (x15_1 + 1)), (by first | rfl | (simp; done) | (simp [*]; done)), (by first | rfl | (simp; done) | (simp [*]; done)), H', ⟨by have := HK1.out; omega⟩, ⟨by (with_reducible repeat (first | apply Kd.R_alloc | apply Kd.R_drewN | apply Kd.R_drew)); exact Kd.R_mono (Kd.R_far (p := ⟨gb187, 1, none⟩) (Kd.R_far (p := ⟨gb187, 0, none⟩) (Kd.R_mono HO_13.out (fun k_ hk => (⟨hk, hk.2⟩ : _ ∧ k_ ≠ gb187))) (fun _ hk => hk.2) (.int .i64 ((rd_T44 t183 x15_1).f0))) (fun _ hk => hk.2) (.int .i64 ((rd_T44 t183 x15_1).f1))) (fun _ hk => trivial)⟩, ⟨by repeat (first | (with_reducible first | exact HB.out | apply below_alloc | apply pw_below_drewN | apply below_drew1 | refine below_set ?_ GE187.out) | exact HB.out)⟩⟩
      ·rw [if_neg c10] at H
       exact absurd H (by simp)
     ·rw [if_neg c9] at H
      exact absurd H (by simp)
    ·rw [if_neg c8] at H
     have c8b0 : decide (x15_1 < (t183.length : Int)) = false := decide_eq_false c8
     clear c8
     simp only [Option.some.injEq, Prod.mk.injEq] at H
     obtain ⟨rfl, rfl⟩ := H
     go_wp2
     go_ret2
     exact ⟨by first | rfl | (simp [errW_none, errW_some] <;> rfl) | (simp [*, errW_none, errW_some] <;> rfl), by repeat (first | (with_reducible first | exact HB.out | apply below_alloc | apply pw_below_drewN | apply below_drew1) | exact HB.out)⟩

end Go.Proofs.YtijbkiajhicooabDoor.PW

namespace Go.Proofs.YtijbkiajhicooabDoor.PW
open Go.RowKit Go.Proofs.YtijbkiajhicooabDoorW.PrintWords Go.Proofs.YtijbkiajhicooabDoorW.PrintLast Go.Proofs.YtijbkiajhicooabDoorW.PrintMore
attribute [local go_sem] max2_int min2_int max_two min_two max_three min_three max_four min_four   -- for this text's walks alone
set_option linter.unusedVariables false
set_option linter.unusedSimpArgs false

def lines_Count.f (l0 : List Int) : Option (Int) := (lines_all.f l0).bind fun t188 => (some (t188.length : Int))
set_option maxHeartbeats 8000000 in
set_option maxRecDepth 100000 in
theorem lines_Count.calls (A0 : Option Addr) (c0 : Nat) (l0 : List Int) (r : Int) (w : World) (hr0 : Kd.C (Kd.int .u8) w A0 l0.length l0) (hc0 : l0.length ≤ c0) (h : lines_Count.f l0 = some r) :
  Calls Tryd.prog 82 #[.slice A0 l0.length c0] w fun e w' => e = .returned (.int .i64 r) ∧ Below w.heap.size w w' := by
 have HR0 := Aside0.mk hr0
 have HC0 := Aside0.mk hc0
 clear hr0 hc0
 have HB := Aside0.mk (Below.refl w.heap.size w)
 have H : ((lines_all.f l0).bind fun t188 => (some (t188.length : Int))) = some r := h
 clear h
 replace H := Option.bind_eq_some_iff.mp H
 obtain ⟨t188, A20, H⟩ := H
 replace H : (some (t188.length : Int)) = some r := H
 have A2 := Aside0.mk A20
 clear A20
 obtain rfl := Option.some.inj H
 go_enter Tryd.func82, Tryd.ntmps82
 go_wp2_with (first | ((with_reducible refine gate_callee (f := 85) rfl ?_); refine goesL_ (some 4) rfl rfl Tryd.func85 (by kernel_rfl) rfl #[.slice A0 l0.length c0] rfl (by (try simp only [List.map_toArray, List.map_cons, List.map_nil]); first | done | rfl | (simp only [List.length_drop, List.length_take]; rfl)) ?_; (with_reducible refine (lines_all.calls _ _ l0 t188 _ ?side1 ?side2 A2.out).mono ?_); (case side1 => repeat (first | exact HR0.out | (with_reducible refine Kd.C_alloc ?_ _) | (with_reducible refine Kd.C_drewN ?_ _) | (with_reducible refine Kd.C_drew ?_))); (case side2 => exact HC0.out); rintro e w3 ⟨v189, rfl, ho0, hb⟩; refine ⟨_, rfl, ?_⟩; have n0_ := Aside0.mk (Kd.R_lower ho0 (below_size (by repeat (first | (with_reducible first | exact HB.out | apply below_alloc | apply pw_below_drewN | apply below_drew1) | exact HB.out)))); have n1_ := Aside0.mk (below_step (by repeat (first | (with_reducible first | exact HB.out | apply below_alloc | apply pw_below_drewN | apply below_drew1) | exact HB.out)) hb); clear HB; have HO190 := n0_; have HB := n1_; clear n0_ n1_; (try clear hb); (try clear hb2); (try clear hk); (try clear hi); (try clear ho0); obtain ⟨Ao4, co4, eo4⟩ := Kd.R_slice HO190.out; subst eo4))
 go_ret
 exact ⟨by first | rfl | (simp [errW_none, errW_some] <;> rfl) | (simp [*, errW_none, errW_some] <;> rfl), by repeat (first | (with_reducible first | exact HB.out | apply below_alloc | apply pw_below_drewN | apply below_drew1) | exact HB.out)⟩

end Go.Proofs.YtijbkiajhicooabDoor.PW

namespace Go.Proofs.YtijbkiajhicooabDoor.PW
open Go.RowKit Go.Proofs.YtijbkiajhicooabDoorW.PrintWords Go.Proofs.YtijbkiajhicooabDoorW.PrintLast Go.Proofs.YtijbkiajhicooabDoorW.PrintMore
attribute [local go_sem] max2_int min2_int max_two min_two max_three min_three max_four min_four   -- for this text's walks alone
set_option linter.unusedVariables false
set_option linter.unusedSimpArgs false

def intVal : Value → Int
 | .int _ n => n
 | _ => 0
def edgesOf (xs : List PStep) : List Int := 0 :: xs.map fun x => wrap64 (x.1 + x.2.2.1)
def blanksOf (xs : List PStep) : List Bool := false :: xs.map fun x => kindOf x.2.1 x.2.2.2 == 1
/-- Back from p to the last blank edge behind s. -/
def scanB (bl : List Bool) (s : Int) : Nat → Int → Int
 | 0, p => p
 | k + 1, p => if s < p ∧ rdOf false bl p = false then scanB bl s k (p - 1) else p
/-- The break behind s. -/
def cutOf (bl : List Bool) (w s : Int) : Int := if scanB bl s w.toNat (s + w) = s then s + w else scanB bl s w.toNat (s + w)
def wrapGo (es : List Int) (bl : List Bool) (start w : Int) : Nat → Int → List Int → List Int
 | 0, _, out => out
 | k + 1, s, out => if w < (es.length : Int) - 1 - s then wrapGo es bl start w k (cutOf bl w s) (out ++ [wrap64 (start + rd es (cutOf bl w s))]) else out
def wrapsOf (l0 : List Int) (start w : Int) : List Int := wrapGo (edgesOf (allSteps (strOfNums l0))) (blanksOf (allSteps (strOfNums l0))) start w (edgesOf (allSteps (strOfNums l0))).length 0 []
def words_wrapped.f (l0 : List Int) (a1 a2 : Int) : Option (List Int) := if l0.length ≤ 4398046511103 ∧ 1 ≤ a2 ∧ a2 ≤ 65536 then some (wrapsOf l0 a1 a2) else none
theorem scanB_le (bl : List Bool) (s : Int) : ∀ (k : Nat) (p : Int), s ≤ p → s ≤ scanB bl s k p ∧ scanB bl s k p ≤ p := by
 intro k
 induction k with
 | zero => intro p h; exact ⟨h, Int.le_refl _⟩
 | succ k ih =>
  intro p h
  unfold scanB
  by_cases hc : s < p ∧ rdOf false bl p = false
  ·rw [if_pos hc]
   have := ih (p - 1) (by omega)
   omega
  ·rw [if_neg hc]
   exact ⟨h, Int.le_refl _⟩
theorem R_append_stepIn {F : Fence} {nF : Nat} {P : Program} {ops : Array Oper} {o : Oper} {a : Act} {Q : Exit → Act → World → Prop} {Kc : Act → World → Prop} {α : Type} (d : Kd α) {w0 W : World} (base : Nat) (hw : Region.wanted o (yielded ops a.tmps) = true) (s x : Operand) (t e : TypeId) (z : Value) (bytes : Nat)
  (ho : o.op = .call { callee := .builtin .append, args := #[s, x], argTypes := #[t, t] })
  (ht : P.underlying t = some (.slice e)) (hinfo : (P.info? e).map (fun i => (i.zero, i.size, i.bytes)) = some (some z, d.sz, bytes)) (hz : z.cells.size = d.sz) (hs0 : 0 < d.sz) (hb0 : 0 < bytes)
  (v : Value) (xs : List α) (p : α) (cs : List Value) (ok okp : Nat → Prop) (hs : a.eval s = v) (hx : a.eval x = .slice (some ⟨W.heap.size, 0, none⟩) 1 1) (hp : d.M W base okp p cs) (hokp : ∀ k, okp k → ok k ∧ some k ≠ v.ownBlock) (hfresh : ∀ k, W.heap.size ≤ k → ok k)
  (HO : d.R e W base ok v xs) (HB : Below base w0 W) (hbase : base ≤ W.heap.size) (hl : (xs.length + 1) * bytes ≤ 140737488355328)
  (h : ∀ v1 w1, d.R e w1 base ok v1 (xs ++ [p]) → Below base w0 w1 → W.grownBy w1 v.ownBlock → Kc (a.put o.dst v1) w1) :
  if Region.wanted o (yielded ops a.tmps) = true then Oper.wpIn F nF P o a (W.alloc (.cells cs.toArray e)) Kc Q else (∀ f, o.about P (W.alloc (.cells cs.toArray e)) a.eval = some f → F.fn f) ∧ Kc (a.put o.dst undef) (W.alloc (.cells cs.toArray e)) := by
 obtain ⟨h0, inner, hown, hr⟩ := HO
 obtain ⟨i0, hi, hzz⟩ := Option.map_eq_some_iff.1 hinfo
 simp only [Prod.mk.injEq] at hzz
 obtain ⟨hz0, hz1, hz2⟩ := hzz
 have hlen : xs.length + 1 ≤ 140737488355328 := Nat.le_trans (Nat.le_mul_of_pos_right _ hb0) hl
 have hys : cs.length = d.sz := d.K_len (d.K_of_M hp)
 rw [if_pos hw]
 obtain ⟨v1, w1, hrr, hown1, hg, _, hat⟩ := run_append_own_at (P := P) (W.alloc (.cells cs.toArray e)) base t o.type e i0 z d.sz bytes ht hi hz0 hz1 hz2 hz hs0 v xs.length inner (hown.alloc _) ⟨W.heap.size, 0, none⟩ 1 1 cs (by rw [hys]; simp)
  (by simpa using World.news_of_block (cs := cs.toArray) (t := e) (fr := (0, 0)) (heap_alloc_new W (.cells cs.toArray e))) (d.K_one (d.K_of_M hp)) (by simp only [maxLen]; omega) hl (by simp; omega)
 have hg1 : W.grownBy w1 v.ownBlock := World.grownBy.trans (World.grownBy_alloc W _ _) hg
 have hat1 : v1.ownBlock = v.ownBlock ∨ ∃ b, v1.ownBlock = some b ∧ W.heap.size ≤ b := by
  rcases hat with hat | hat
  ·exact .inl hat
  ·exact .inr ⟨_, hat, by simp⟩
 unfold Oper.wpIn
 refine ⟨by simp [Oper.about, ho, resolve, Target.leads, Sem.run_pure], ?_⟩
 rw [Oper.semAt_plain F _ _ (by rw [ho]; intro c hc'; cases hc')]
 simp [execOp, ho, resolve, invoke, builtin, hs, hx, hrr, Result.andThen]
 exact h v1 w1 (Kd.R_appended h0 hr hp hokp hfresh hown1 hg1 hat1) (HB.grown hg1 hbase (own_base hown)) hg1
theorem wr_infoB : (Tryd.prog.info? 4).map (fun i => (i.zero, i.size, i.bytes)) = some (some (.bool false), 1, 1) := by kernel_rfl
theorem R_oneI (w W : World) (hB : Below w.heap.size w W) (n : Int) : (Kd.int .i64).R 3 (W.alloc (.cells #[.int .i64 n] 3)) w.heap.size (fun _ => True) (.slice (some ⟨W.heap.size, 0, none⟩) 1 1) [n] := by
 have h2 := World.ownsRow_lit (base := w.heap.size) (e := 3) (size := 1) W #[.int .i64 n] 1 hB.size (by simp [maxLen]) (by simp)
 exact ⟨fun _ _ => trivial, [.int .i64 n], (by simpa using h2 : World.ownsRow _ _ _ 1 _ 1 _), Kd.reps_scalar [n]⟩
theorem R_oneB (w W : World) (hB : Below w.heap.size w W) (n : Bool) : Kd.bool.R 4 (W.alloc (.cells #[.bool n] 4)) w.heap.size (fun _ => True) (.slice (some ⟨W.heap.size, 0, none⟩) 1 1) [n] := by
 have h2 := World.ownsRow_lit (base := w.heap.size) (e := 4) (size := 1) W #[.bool n] 1 hB.size (by simp [maxLen]) (by simp)
 exact ⟨fun _ _ => trivial, [.bool n], (by simpa using h2 : World.ownsRow _ _ _ 1 _ 1 _), Kd.reps_scalar [n]⟩
/-- How a round of the loop is left. -/
def WrapPost (B n₀ : Nat) (s : ByteArray) (es : List Int) (bs : List Bool) (w W : World) : Exit → Act → World → Prop := fun e _ V => e = .normal ∧ KeepsFrom B W V ∧ KpBox n₀ (n₀ + 4) W V ∧ Below n₀ w V ∧
 ∃ vE vB, V.heap[n₀ + 1]? = some (.cells #[vE] 38 (0, 0)) ∧ V.heap[n₀ + 3]? = some (.cells #[vB] 170 (0, 0)) ∧ (Kd.int .i64).R 3 V n₀ (fun _ => True) vE es ∧ Kd.bool.R 4 V n₀ (fun _ => True) vB bs
theorem wrapPost_of {B : Nat} {w V X Xk w2 : World} {s : ByteArray} {es : List Int} {bs bs2 : List Bool} {vE vB vB' v3 : Value} (a' : Act) (hB : Below w.heap.size w V) (hbs : V.heap[w.heap.size + 4]? = some (.cells #[.string s] 9 (0, 0))) (hb4 : Below w.heap.size V X) (ho4 : KeepsOthers V X)
  (hE4 : X.heap[w.heap.size + 1]? = some (.cells #[vE] 38 (0, 0))) (hbs4 : X.heap[w.heap.size + 4]? = some (.cells #[.string s] 9 (0, 0))) (HRE : (Kd.int .i64).R 3 X w.heap.size (fun _ => True) vE es) (HRB : Kd.bool.R 4 X w.heap.size (fun _ => True) vB bs)
  (hbk : Below X.heap.size X Xk) (HG4 : Xk.grownBy w2 vB.ownBlock) (HB5 : Below w.heap.size X w2) (HBE : w2.heap[w.heap.size + 3]? = some (.cells #[vB'] 170 (0, 0))) (HR4 : Kd.bool.R 4 w2 w.heap.size (fun _ => True) v3 bs2) :
  WrapPost B w.heap.size s es bs2 w V .normal a' (w2.setCell ⟨w.heap.size + 3, 0, none⟩ v3) := by
 have hRBk := Kd.R_below HRB hbk
 have hK : KeepsOthers X Xk := KeepsOthers.of_grownBy (grown_of_below hbk none) (fun j o hj _ => by cases hj)
 have hO : KeepsOthers V (w2.setCell ⟨w.heap.size + 3, 0, none⟩ v3) := ((ho4.trans hK).trans (keepsOthers_R hRBk HG4)).trans (KeepsOthers.setCell _ _ _)
 have hb : Below w.heap.size V (w2.setCell ⟨w.heap.size + 3, 0, none⟩ v3) := (hb4.trans HB5).setCell (p := ⟨w.heap.size + 3, 0, none⟩) (by show w.heap.size ≤ w.heap.size + 3; omega) _
 have hbsk := blk_below hbs4 hbk
 have hs2 := blk_far (blk_grown hbsk HG4 (R_ne_blk hRBk hbsk (by decide))) (p := ⟨w.heap.size + 3, 0, none⟩) (by simp) v3
 have hEk := blk_below hE4 hbk
 have hE2 := blk_far (blk_grown hEk HG4 (R_ne_blk hRBk hEk (by decide))) (p := ⟨w.heap.size + 3, 0, none⟩) (by simp) v3
 exact ⟨rfl, hO.from _, KpBox.of hb (hs2.trans hbs.symm) hO, hB.trans hb, vE, v3, hE2, blk_set HBE 0 _, Kd.R_set (Kd.R_over' (Kd.R_below HRE hbk) (Kd.R_typed hRBk) (by decide) HG4) HBE (by decide) _ _, Kd.R_set HR4 HBE (by decide) _ _⟩
attribute [local go_sem] Oper.semAt_some
set_option maxRecDepth 100000 in
set_option maxHeartbeats 4000000 in
theorem words_wrapped.walk (A0 : Option Addr) (c0 : Nat) (l0 : List Int) (a1 a2 : Int) (w : World) (hr0 : Kd.C (Kd.int .u8) w A0 l0.length l0) (hc0 : l0.length ≤ c0) (hL : LaidBad w) (hlim : l0.length ≤ 4398046511103) (hw1 : 1 ≤ a2) (hw2 : a2 ≤ 65536) :
  CallsIn Fence.wide 10 Tryd.prog 83 #[.slice A0 l0.length c0, .int .i64 a1, .int .i64 a2] w fun e w' => ∃ v0_ : Value, e = .returned (v0_) ∧ Kd.R (Kd.int .i64) 3 w' w.heap.size (fun _ => True) v0_ (wrapsOf l0 a1 a2) ∧ Below w.heap.size w w' := by
 refine callsIn_of_wp_marks Tryd.func83 rfl trivial ?_ rfl
 simp only [Tryd.ntmps83, List.size_toArray, List.length_cons, List.length_nil, Nat.reduceAdd, Nat.reduceSub, Array.replicate_succ, Array.replicate_zero, List.push_toArray, List.append_toArray, List.nil_append, List.cons_append]
 obtain ⟨W1, hW1⟩ : ∃ W1, (((w.alloc (.cells #[.int .i64 0] 3)).alloc (.cells #[.slice (some ⟨w.heap.size, 0, none⟩) 1 1] 38)).alloc (.cells #[.bool false] 4)).alloc (.cells #[.slice (some ⟨w.heap.size + 2, 0, none⟩) 1 1] 170) = W1 := ⟨_, rfl⟩
 have hB1 : Below w.heap.size w W1 := by rw [← hW1]; exact ((((Below.refl _ w).alloc (Nat.le_refl _) _).alloc (by simp) _).alloc (by simp; omega) _).alloc (by simp; omega) _
 have HR1 := Aside0.mk (Kd.C_below hr0 hB1)
 have HR0 := Aside0.mk hr0
 clear hr0
 gi_wp2_with (refine ⟨trivial, ?_⟩; gi_at_call 57; refine (callsIn_wide.2 (step_All.calls A0 c0 l0 _ HR1.out hc0)).mono ?_; rintro e w' ⟨rfl, rfl⟩)
 have hE1 : W1.heap[w.heap.size + 1]? = some (.cells #[.slice (some ⟨w.heap.size, 0, none⟩) 1 1] 38 (0, 0)) := by
  rw [← hW1]; have := blk_new (w.alloc (.cells #[.int .i64 0] 3)) (.cells #[.slice (some ⟨w.heap.size, 0, none⟩) 1 1] 38); rw [World.size_alloc] at this; exact blk_alloc (blk_alloc this _) _
 have hK1 : W1.heap[w.heap.size + 3]? = some (.cells #[.slice (some ⟨w.heap.size + 2, 0, none⟩) 1 1] 170 (0, 0)) := by
  rw [← hW1]; have := blk_new (((w.alloc (.cells #[.int .i64 0] 3)).alloc (.cells #[.slice (some ⟨w.heap.size, 0, none⟩) 1 1] 38)).alloc (.cells #[.bool false] 4)) (.cells #[.slice (some ⟨w.heap.size + 2, 0, none⟩) 1 1] 170); rwa [World.size_alloc, World.size_alloc, World.size_alloc] at this
 have hRE1 : (Kd.int .i64).R 3 W1 w.heap.size (fun _ => True) (.slice (some ⟨w.heap.size, 0, none⟩) 1 1) [0] := by
  rw [← hW1]; exact Kd.R_alloc (Kd.R_alloc (Kd.R_alloc (R_oneI w w (Below.refl _ _) 0) _) _) _
 have hRB1 : Kd.bool.R 4 W1 w.heap.size (fun _ => True) (.slice (some ⟨w.heap.size + 2, 0, none⟩) 1 1) [false] := by
  rw [← hW1]
  have h := R_oneB w ((w.alloc (.cells #[.int .i64 0] 3)).alloc (.cells #[.slice (some ⟨w.heap.size, 0, none⟩) 1 1] 38)) (((Below.refl _ w).alloc (Nat.le_refl _) _).alloc (by simp) _) false
  rw [World.size_alloc, World.size_alloc] at h
  exact Kd.R_alloc h _
 have hs1 : W1.heap.size = w.heap.size + 4 := by rw [← hW1]; simp
 clear hW1
 obtain ⟨W2, hW2⟩ : ∃ W2, W1.alloc (.cells #[.string (strOfNums l0)] 9) = W2 := ⟨_, rfl⟩
 have bs2 : W2.heap[w.heap.size + 4]? = some (.cells #[.string (strOfNums l0)] 9 (0, 0)) := by rw [← hW2, ← hs1]; exact blk_new W1 _
 have hB2 : Below w.heap.size w W2 := by rw [← hW2]; exact hB1.alloc hB1.size _
 have hE2 : W2.heap[w.heap.size + 1]? = some (.cells #[.slice (some ⟨w.heap.size, 0, none⟩) 1 1] 38 (0, 0)) := by rw [← hW2]; exact blk_alloc hE1 _
 have hK2 : W2.heap[w.heap.size + 3]? = some (.cells #[.slice (some ⟨w.heap.size + 2, 0, none⟩) 1 1] 170 (0, 0)) := by rw [← hW2]; exact blk_alloc hK1 _
 have hRE2 : (Kd.int .i64).R 3 W2 w.heap.size (fun _ => True) (.slice (some ⟨w.heap.size, 0, none⟩) 1 1) [0] := by rw [← hW2]; exact Kd.R_alloc hRE1 _
 have hRB2 : Kd.bool.R 4 W2 w.heap.size (fun _ => True) (.slice (some ⟨w.heap.size + 2, 0, none⟩) 1 1) [false] := by rw [← hW2]; exact Kd.R_alloc hRB1 _
 have hs2 : W2.heap.size = w.heap.size + 5 := by rw [← hW2]; simp [hs1]
 have hL2 := laid_below hL hB2
 have hpos : 0 < w.heap.size := laid_lt hL
 have hns : (strOfNums l0).size ≤ 4398046511103 := by rw [strOfNums_size]; exact hlim
 have hN : (allSteps (strOfNums l0)).length ≤ 4398046511103 := Nat.le_trans (stepsFrom_length _ _) (by omega)
 rw [hW2, hs1]
 clear hW2 hE1 hK1 hRE1 hRB1 HR1 hB1 hs1 HR0
 refine wpIn_rangeFunc_ownH rfl (by decide) (gf := 88) (lb := #[.pointer (some ⟨w.heap.size + 4, 0, none⟩)]) rfl trivial (enters_of Tryd.func88 (by kernel_rfl) rfl)
  (step_All1.stops (10 - 1) (w.heap.size + 4) w.heap.size (by decide) (strOfNums l0) (by omega) hpos W2 bs2 hB2.size hL2) KpBox.t (KpBox.b hB2.size (by omega)) (Below.refl _ _) (fun _ => rfl)
  (fun pre V => (Below w.heap.size w V ∧ V.heap[w.heap.size + 4]? = some (.cells #[.string (strOfNums l0)] 9 (0, 0))) ∧ ∃ vE vB, V.heap[w.heap.size + 1]? = some (.cells #[vE] 38 (0, 0)) ∧ V.heap[w.heap.size + 3]? = some (.cells #[vB] 170 (0, 0)) ∧ (Kd.int .i64).R 3 V w.heap.size (fun _ => True) vE (edgesOf pre) ∧ Kd.bool.R 4 V w.heap.size (fun _ => True) vB (blanksOf pre))
  (fun _ _ _ => False)
  (fun s X Y row hs hg hr => by
   obtain ⟨⟨h1, h2⟩, vE, vB, h3, h4, h5, h6⟩ := hs
   exact ⟨⟨ownFrom_below (Nat.le_refl _) hB2.size s X Y row h1 hg hr, blk_abides h2 hg (fun r e => (hr r e).2)⟩, vE, vB, blk_abides h3 hg (fun r e => (hr r e).2), blk_abides h4 hg (fun r e => (hr r e).2), R_abides h5 hg (fun r e => (hr r e).2), R_abides h6 hg (fun r e => (hr r e).2)⟩)
  (fun _ _ _ _ _ hs _ _ => hs)
  ⟨⟨hB2, bs2⟩, _, _, hE2, hK2, hRE2, hRB2⟩
  (fun x a' V => ∃ Bx, W2.heap.size ≤ Bx ∧ V.heap[Bx]? = some (.cells #[.int .i32 x.2.1, .int .i64 x.2.2.1, .bool x.2.2.2] 50 (0, 0)) ∧ a' = { tmps := #[.slice A0 l0.length c0, .int .i64 a1, .int .i64 a2, undef, undef, undef, .slice none 0 0, .pointer (some ⟨w.heap.size + 1, 0, none⟩), .pointer (some ⟨w.heap.size + 3, 0, none⟩), .int .i64 x.1, .pointer (some ⟨Bx, 0, none⟩), undef, undef, undef, .slice (some ⟨w.heap.size, 0, none⟩) 1 1, .slice (some ⟨w.heap.size + 2, 0, none⟩) 1 1, .slice A0 l0.length c0, .func (.func 88) #[] #[.pointer (some ⟨w.heap.size + 4, 0, none⟩)], .int .i64 x.1, .agg #[.int .i32 x.2.1, .int .i64 x.2.2.1, .bool x.2.2.2], undef, undef, undef, undef, undef, undef, undef, undef, undef, undef, undef, undef, undef, undef, undef, undef, undef, undef, undef, undef, undef, undef, undef, undef, undef, undef, undef, undef, undef, undef, undef, undef, undef, undef, undef, undef, undef, undef, undef, undef, undef, undef, undef, undef, undef, undef, undef, undef, undef, undef, undef, undef], defers := [] })
  (fun x a' _ X Y row hs hg hr => by obtain ⟨Bx, h1, h2, h3⟩ := hs; exact ⟨Bx, h1, blk_abides h2 hg (fun r e => (hr r e).2), h3⟩)
  ?assign ?body ?done ?stop
 case assign =>
  rintro l' pre x V K ⟨⟨hB, hbs⟩, vE, vB, hE, hK', hRE, hRB⟩ hK
  gi_wp2
  have hlt := blk_lt hbs
  exact hK _ _ ((KeepsOthers.alloc _ _).from _) (KpBox.of ((Below.refl _ V).alloc hB.size _) ((blk_alloc hbs _).trans hbs.symm) (KeepsOthers.alloc _ _)) ⟨⟨hB.alloc hB.size _, blk_alloc hbs _⟩, vE, vB, blk_alloc hE _, blk_alloc hK' _, Kd.R_alloc hRE _, Kd.R_alloc hRB _⟩ ⟨V.heap.size, by omega, blk_new V _, rfl⟩
 case body =>
  rintro l' pre x a' V hl' ⟨r, hr⟩ ⟨⟨hB, hbs⟩, vE, vB, hE, hK', hRE, hRB⟩ ⟨Bx, hBx, hbx, rfl⟩ hlen
  obtain ⟨xp, xr, xw, xb⟩ := x
  dsimp only at hbx ⊢
  refine wpIn_mono (Q := WrapPost W2.heap.size w.heap.size (strOfNums l0) (edgesOf pre ++ [wrap64 (xp + xw)]) (blanksOf pre ++ [kindOf xr xb == 1]) w V) ?walk ?post
  case post =>
   rintro e a9 V2 ⟨rfl, g1, g2, g3, vE2, vB2, g4, g5, g6, g7⟩
   exact ⟨g1, g2, ⟨g3, g2.2.1.trans hbs⟩, vE2, vB2, g4, g5, by simpa [edgesOf] using g6, by simpa [blanksOf] using g7⟩
  have hle : (edgesOf pre).length ≤ 4398046511104 := by simp [edgesOf]; omega
  have hlb : (blanksOf pre).length ≤ 4398046511104 := by simp [blanksOf]; omega
  generalize edgesOf pre = es at *
  generalize blanksOf pre = bs at *
  have HK := Aside0.mk (words_Kind.is xr xw xb)
  generalize kindOf xr xb = kd at *
  obtain ⟨AE, cE, rfl⟩ := Kd.R_slice hRE
  have c1 := blk_cell hE 0
  have f1 := blk_frozen hE 0
  have cx0 := blk_cell hbx 0
  have cx1 := blk_cell hbx 1
  have cx2 := blk_cell hbx 2
  have HRE := Aside0.mk hRE
  have HRB := Aside0.mk hRB
  have HLE := Aside0.mk (show (es.length + 1) * 8 ≤ 140737488355328 by omega)
  have HLB := Aside0.mk (show (bs.length + 1) * 1 ≤ 140737488355328 by omega)
  have hmx : Tryd.prog.follows .mixedOrders = true := by kernel_rfl
  clear hRE hRB hle hlb
  gi_wp2_with (gi_at_builtin; refine R_appendIn (Kd.int .i64) (w0 := V) w.heap.size rfl (.tmp 20) (.tmp 25) 38 3 (.int .i64 0) 8 rfl Tryd.underlying38 info3 rfl (by decide) (by decide) (.slice AE es.length cE) es (wrap64 (xp + xw)) [.int .i64 (wrap64 (xp + xw))] (fun _ => True) (fun _ => False) rfl rfl rfl (fun _ hk => hk.elim) (fun _ _ => trivial) HRE.out (Below.refl _ _) hB.size HLE.out ?_; intro v1 w1 HR1 HB2 hg1 hnn; have hb1 := blk_grown hE hg1 (R_ne_blk HRE.out hE (by decide)); have hc2 := blk_cell hb1 0; have hf2 := blk_frozen hb1 0; have HR2 := Aside0.mk HR1; have HG2 := Aside0.mk hg1; have HB3 := Aside0.mk HB2; have HBX := Aside0.mk hb1; obtain ⟨A2, c2, rfl⟩ := Kd.R_slice HR1; clear HR1 hg1 HB2 hnn hb1; have HR2 := Aside0.mk (show (Kd.int .i64).R 3 w1 w.heap.size (fun _ => True) (.slice A2 (es.length + 1) c2) (es ++ [wrap64 (xp + xw)]) from by have := HR2.out; rwa [List.length_append, List.length_singleton] at this))
  obtain ⟨V2, hV2⟩ : ∃ V2, w1.setCell ⟨w.heap.size + 1, 0, none⟩ (.slice A2 (es.length + 1) c2) = V2 := ⟨_, rfl⟩
  have hE3 : V2.heap[w.heap.size + 1]? = some (.cells #[.slice A2 (es.length + 1) c2] 38 (0, 0)) := by rw [← hV2]; exact blk_set HBX.out 0 _
  have hK3 : V2.heap[w.heap.size + 3]? = some (.cells #[vB] 170 (0, 0)) := by rw [← hV2]; exact blk_far (blk_grown hK' HG2.out (R_ne_blk HRE.out hK' (by decide))) (p := ⟨w.heap.size + 1, 0, none⟩) (by simp) _
  have hlt := blk_lt hbs
  have hbs3 : V2.heap[w.heap.size + 4]? = some (.cells #[.string (strOfNums l0)] 9 (0, 0)) := by rw [← hV2]; exact blk_far (blk_grown hbs HG2.out (R_ne_blk HRE.out hbs (by decide))) (p := ⟨w.heap.size + 1, 0, none⟩) (by simp) _
  have hbx3 : V2.heap[Bx]? = some (.cells #[.int .i32 xr, .int .i64 xw, .bool xb] 50 (0, 0)) := by rw [← hV2]; exact blk_far (blk_grown hbx HG2.out (R_ne_blk HRE.out hbx (by decide))) (p := ⟨w.heap.size + 1, 0, none⟩) (by simp; omega) _
  have hRE3 : (Kd.int .i64).R 3 V2 w.heap.size (fun _ => True) (.slice A2 (es.length + 1) c2) (es ++ [wrap64 (xp + xw)]) := by rw [← hV2]; exact Kd.R_set HR2.out HBX.out (by decide) _ _
  have hRB3 : Kd.bool.R 4 V2 w.heap.size (fun _ => True) vB bs := by rw [← hV2]; exact Kd.R_set (Kd.R_over' HRB.out (Kd.R_typed HRE.out) (by decide) HG2.out) HBX.out (by decide) _ _
  have hb3 : Below w.heap.size V V2 := by rw [← hV2]; exact HB3.out.setCell (p := ⟨w.heap.size + 1, 0, none⟩) (Nat.le_succ _) _
  have ho3 : KeepsOthers V V2 := by rw [← hV2]; exact (keepsOthers_R HRE.out HG2.out).trans (KeepsOthers.setCell _ _ _)
  rw [hV2]
  clear hV2 hc2 hf2 HBX HB3 HG2 HR2 hE hK' hbx c1 f1 cx0 cx1 cx2 HRE HRB hr
  generalize es ++ [wrap64 (xp + xw)] = es2 at *
  generalize es.length + 1 = n2 at *
  refine wpIn_region_any (by assumption) ?_
  try (change wpAnyIn _ _ _ _ _ _ _ _ _ (World.drew _))
  obtain ⟨X, hX⟩ : ∃ X, V2.drew = X := ⟨_, rfl⟩
  have hE4 : X.heap[w.heap.size + 1]? = some (.cells #[.slice A2 n2 c2] 38 (0, 0)) := by rw [← hX]; exact hE3
  have hK4 : X.heap[w.heap.size + 3]? = some (.cells #[vB] 170 (0, 0)) := by rw [← hX]; exact hK3
  have hbs4 : X.heap[w.heap.size + 4]? = some (.cells #[.string (strOfNums l0)] 9 (0, 0)) := by rw [← hX]; exact hbs3
  have hbx4 : X.heap[Bx]? = some (.cells #[.int .i32 xr, .int .i64 xw, .bool xb] 50 (0, 0)) := by rw [← hX]; exact hbx3
  have hRE4 : (Kd.int .i64).R 3 X w.heap.size (fun _ => True) (.slice A2 n2 c2) es2 := by rw [← hX]; exact Kd.R_drew hRE3
  have hRB4 : Kd.bool.R 4 X w.heap.size (fun _ => True) vB bs := by rw [← hX]; exact Kd.R_drew hRB3
  have hb4 : Below w.heap.size V X := by rw [← hX]; exact hb3.drew
  have ho4 : KeepsOthers V X := by rw [← hX]; exact ho3.trans (KeepsOthers.drew _)
  rw [hX]
  clear hX hE3 hK3 hbs3 hbx3 hRE3 hRB3 hb3 ho3
  obtain ⟨AB, cB, rfl⟩ := Kd.R_slice hRB4
  have cK := blk_cell hK4 0
  have cx0 := blk_cell hbx4 0
  have cx1 := blk_cell hbx4 1
  have cx2 := blk_cell hbx4 2
  have HRE := Aside0.mk hRE4
  have HRB := Aside0.mk hRB4
  have hu := Tryd.underlying50
  clear hRE4 hRB4
  have hb4S : w.heap.size ≤ X.heap.size := Nat.le_trans hB.size hb4.size
  refine wpAnyIn_ready (rs := [0, 1]) (by kernel_rfl) (by simp) ?_
  refine AllReadyIn.cons rfl (fun K hK => ?_) ?_
  ·go_simp
   refine hK _ _ ?_
   clear hK K
   refine wpAnyIn_ready (rs := [1]) (by kernel_rfl) (by simp) ?_
   refine AllReadyIn.cons rfl (fun K hK => ?_) ?_
   ·go_simp
    refine hK _ _ ?_
    clear hK K
    refine wpAnyIn_ready (rs := [2]) (by kernel_rfl) (by simp) ?_
    refine AllReadyIn.cons rfl (fun K hK => ?_) ?_
    ·go_simp
     gi_wp2_with (refine ⟨trivial, ?_⟩; gi_at_call 23; refine (CallsIn.inRound l' (callsIn_wide.2 (words_Kind.calls 3 xr xw xb kd _ HK.out))).mono ?_; rintro e Xk ⟨rfl, hbk⟩; replace hK4 := blk_below hK4 hbk; replace cK := blk_cell hK4 0)
     have cKa := blk_cell (blk_alloc hK4 (.cells #[.bool (kd == 1)] 4)) 0
     refine wpAnyIn_ready (rs := [3]) (by kernel_rfl) (by simp) ?_
     refine AllReadyIn.cons rfl (fun K hK => ?_) ?_
     ·go_simp
      refine hK _ _ ?_
      clear hK K
      refine wpAnyIn_ready (rs := [4]) (by kernel_rfl) (by simp) ?_
      refine AllReadyIn.cons rfl (fun K hK => ?_) ?_
      ·go_simp
       refine hK _ _ ?_
       clear hK K
       refine wpAnyIn_ready (rs := [5]) (by kernel_rfl) (by simp) ?_
       refine AllReadyIn.cons rfl (fun K hK => ?_) ?_
       ·refine R_append_stepIn Kd.bool (w0 := X) w.heap.size rfl (.tmp 27) (.tmp 31) 170 4 (.bool false) 1 rfl Tryd.underlying170 wr_infoB rfl (by decide) (by decide) (.slice AB bs.length cB) bs (kd == 1) [.bool (kd == 1)] (fun _ => True) (fun _ => False) rfl rfl rfl (fun _ hk => hk.elim) (fun _ _ => trivial) (Kd.R_below HRB.out hbk) (hbk.mono hb4S) (Nat.le_trans hb4S hbk.size) HLB.out ?_
        intro v2 w2 HR3 HB4 hg3
        obtain ⟨A3, c3, rfl⟩ := Kd.R_slice HR3
        rw [List.length_append, List.length_singleton] at HR3
        have hbe := blk_grown hK4 hg3 (R_ne_blk (Kd.R_below HRB.out hbk) hK4 (by decide))
        have cK2 := blk_cell hbe 0
        have fK2 := blk_frozen hbe 0
        have HR4 := Aside0.mk HR3
        have HG4 := Aside0.mk hg3
        have HB5 := Aside0.mk HB4
        have HBE := Aside0.mk hbe
        clear HR3 HB4 hg3 hbe cK cKa
        refine hK _ _ ?_
        clear hK K
        refine wpAnyIn_ready (rs := [6]) (by kernel_rfl) (by simp) ?_
        refine AllReadyIn.cons rfl (fun K hK => ?_) ?_
        ·go_simp
         refine hK _ _ ?_
         clear hK K
         refine wpAnyIn_done (by kernel_rfl) ?_ _
         (gi_wp2; exact wrapPost_of _ hB hbs hb4 ho4 hE4 hbs4 HRE.out HRB.out hbk HG4.out HB5.out HBE.out HR4.out)
        exact AllReadyIn.nil
       exact AllReadyIn.nil
      exact AllReadyIn.nil
     exact AllReadyIn.nil
    exact AllReadyIn.nil
   exact AllReadyIn.nil
  refine AllReadyIn.cons rfl (fun K hK => ?_) ?_
  ·go_simp
   refine hK _ _ ?_
   clear hK K
   refine wpAnyIn_ready (rs := [0, 2]) (by kernel_rfl) (by simp) ?_
   refine AllReadyIn.cons rfl (fun K hK => ?_) ?_
   ·go_simp
    refine hK _ _ ?_
    clear hK K
    refine wpAnyIn_ready (rs := [2]) (by kernel_rfl) (by simp) ?_
    refine AllReadyIn.cons rfl (fun K hK => ?_) ?_
    ·go_simp
     gi_wp2_with (refine ⟨trivial, ?_⟩; gi_at_call 23; refine (CallsIn.inRound l' (callsIn_wide.2 (words_Kind.calls 3 xr xw xb kd _ HK.out))).mono ?_; rintro e Xk ⟨rfl, hbk⟩; replace hK4 := blk_below hK4 hbk; replace cK := blk_cell hK4 0)
     have cKa := blk_cell (blk_alloc hK4 (.cells #[.bool (kd == 1)] 4)) 0
     refine wpAnyIn_ready (rs := [3]) (by kernel_rfl) (by simp) ?_
     refine AllReadyIn.cons rfl (fun K hK => ?_) ?_
     ·go_simp
      refine hK _ _ ?_
      clear hK K
      refine wpAnyIn_ready (rs := [4]) (by kernel_rfl) (by simp) ?_
      refine AllReadyIn.cons rfl (fun K hK => ?_) ?_
      ·go_simp
       refine hK _ _ ?_
       clear hK K
       refine wpAnyIn_ready (rs := [5]) (by kernel_rfl) (by simp) ?_
       refine AllReadyIn.cons rfl (fun K hK => ?_) ?_
       ·refine R_append_stepIn Kd.bool (w0 := X) w.heap.size rfl (.tmp 27) (.tmp 31) 170 4 (.bool false) 1 rfl Tryd.underlying170 wr_infoB rfl (by decide) (by decide) (.slice AB bs.length cB) bs (kd == 1) [.bool (kd == 1)] (fun _ => True) (fun _ => False) rfl rfl rfl (fun _ hk => hk.elim) (fun _ _ => trivial) (Kd.R_below HRB.out hbk) (hbk.mono hb4S) (Nat.le_trans hb4S hbk.size) HLB.out ?_
        intro v2 w2 HR3 HB4 hg3
        obtain ⟨A3, c3, rfl⟩ := Kd.R_slice HR3
        rw [List.length_append, List.length_singleton] at HR3
        have hbe := blk_grown hK4 hg3 (R_ne_blk (Kd.R_below HRB.out hbk) hK4 (by decide))
        have cK2 := blk_cell hbe 0
        have fK2 := blk_frozen hbe 0
        have HR4 := Aside0.mk HR3
        have HG4 := Aside0.mk hg3
        have HB5 := Aside0.mk HB4
        have HBE := Aside0.mk hbe
        clear HR3 HB4 hg3 hbe cK cKa
        refine hK _ _ ?_
        clear hK K
        refine wpAnyIn_ready (rs := [6]) (by kernel_rfl) (by simp) ?_
        refine AllReadyIn.cons rfl (fun K hK => ?_) ?_
        ·go_simp
         refine hK _ _ ?_
         clear hK K
         refine wpAnyIn_done (by kernel_rfl) ?_ _
         (gi_wp2; exact wrapPost_of _ hB hbs hb4 ho4 hE4 hbs4 HRE.out HRB.out hbk HG4.out HB5.out HBE.out HR4.out)
        exact AllReadyIn.nil
       exact AllReadyIn.nil
      exact AllReadyIn.nil
     exact AllReadyIn.nil
    exact AllReadyIn.nil
   refine AllReadyIn.cons rfl (fun K hK => ?_) ?_
   ·go_simp
    gi_wp2_with (refine ⟨trivial, ?_⟩; gi_at_call 23; refine (CallsIn.inRound l' (callsIn_wide.2 (words_Kind.calls 3 xr xw xb kd _ HK.out))).mono ?_; rintro e Xk ⟨rfl, hbk⟩; replace hK4 := blk_below hK4 hbk; replace cK := blk_cell hK4 0)
    have cKa := blk_cell (blk_alloc hK4 (.cells #[.bool (kd == 1)] 4)) 0
    refine wpAnyIn_ready (rs := [0, 3]) (by kernel_rfl) (by simp) ?_
    refine AllReadyIn.cons rfl (fun K hK => ?_) ?_
    ·go_simp
     refine hK _ _ ?_
     clear hK K
     refine wpAnyIn_ready (rs := [3]) (by kernel_rfl) (by simp) ?_
     refine AllReadyIn.cons rfl (fun K hK => ?_) ?_
     ·go_simp
      refine hK _ _ ?_
      clear hK K
      refine wpAnyIn_ready (rs := [4]) (by kernel_rfl) (by simp) ?_
      refine AllReadyIn.cons rfl (fun K hK => ?_) ?_
      ·go_simp
       refine hK _ _ ?_
       clear hK K
       refine wpAnyIn_ready (rs := [5]) (by kernel_rfl) (by simp) ?_
       refine AllReadyIn.cons rfl (fun K hK => ?_) ?_
       ·refine R_append_stepIn Kd.bool (w0 := X) w.heap.size rfl (.tmp 27) (.tmp 31) 170 4 (.bool false) 1 rfl Tryd.underlying170 wr_infoB rfl (by decide) (by decide) (.slice AB bs.length cB) bs (kd == 1) [.bool (kd == 1)] (fun _ => True) (fun _ => False) rfl rfl rfl (fun _ hk => hk.elim) (fun _ _ => trivial) (Kd.R_below HRB.out hbk) (hbk.mono hb4S) (Nat.le_trans hb4S hbk.size) HLB.out ?_
        intro v2 w2 HR3 HB4 hg3
        obtain ⟨A3, c3, rfl⟩ := Kd.R_slice HR3
        rw [List.length_append, List.length_singleton] at HR3
        have hbe := blk_grown hK4 hg3 (R_ne_blk (Kd.R_below HRB.out hbk) hK4 (by decide))
        have cK2 := blk_cell hbe 0
        have fK2 := blk_frozen hbe 0
        have HR4 := Aside0.mk HR3
        have HG4 := Aside0.mk hg3
        have HB5 := Aside0.mk HB4
        have HBE := Aside0.mk hbe
        clear HR3 HB4 hg3 hbe cK cKa
        refine hK _ _ ?_
        clear hK K
        refine wpAnyIn_ready (rs := [6]) (by kernel_rfl) (by simp) ?_
        refine AllReadyIn.cons rfl (fun K hK => ?_) ?_
        ·go_simp
         refine hK _ _ ?_
         clear hK K
         refine wpAnyIn_done (by kernel_rfl) ?_ _
         (gi_wp2; exact wrapPost_of _ hB hbs hb4 ho4 hE4 hbs4 HRE.out HRB.out hbk HG4.out HB5.out HBE.out HR4.out)
        exact AllReadyIn.nil
       exact AllReadyIn.nil
      exact AllReadyIn.nil
     exact AllReadyIn.nil
    refine AllReadyIn.cons rfl (fun K hK => ?_) ?_
    ·go_simp
     refine hK _ _ ?_
     clear hK K
     refine wpAnyIn_ready (rs := [0, 4]) (by kernel_rfl) (by simp) ?_
     refine AllReadyIn.cons rfl (fun K hK => ?_) ?_
     ·go_simp
      refine hK _ _ ?_
      clear hK K
      refine wpAnyIn_ready (rs := [4]) (by kernel_rfl) (by simp) ?_
      refine AllReadyIn.cons rfl (fun K hK => ?_) ?_
      ·go_simp
       refine hK _ _ ?_
       clear hK K
       refine wpAnyIn_ready (rs := [5]) (by kernel_rfl) (by simp) ?_
       refine AllReadyIn.cons rfl (fun K hK => ?_) ?_
       ·refine R_append_stepIn Kd.bool (w0 := X) w.heap.size rfl (.tmp 27) (.tmp 31) 170 4 (.bool false) 1 rfl Tryd.underlying170 wr_infoB rfl (by decide) (by decide) (.slice AB bs.length cB) bs (kd == 1) [.bool (kd == 1)] (fun _ => True) (fun _ => False) rfl rfl rfl (fun _ hk => hk.elim) (fun _ _ => trivial) (Kd.R_below HRB.out hbk) (hbk.mono hb4S) (Nat.le_trans hb4S hbk.size) HLB.out ?_
        intro v2 w2 HR3 HB4 hg3
        obtain ⟨A3, c3, rfl⟩ := Kd.R_slice HR3
        rw [List.length_append, List.length_singleton] at HR3
        have hbe := blk_grown hK4 hg3 (R_ne_blk (Kd.R_below HRB.out hbk) hK4 (by decide))
        have cK2 := blk_cell hbe 0
        have fK2 := blk_frozen hbe 0
        have HR4 := Aside0.mk HR3
        have HG4 := Aside0.mk hg3
        have HB5 := Aside0.mk HB4
        have HBE := Aside0.mk hbe
        clear HR3 HB4 hg3 hbe cK cKa
        refine hK _ _ ?_
        clear hK K
        refine wpAnyIn_ready (rs := [6]) (by kernel_rfl) (by simp) ?_
        refine AllReadyIn.cons rfl (fun K hK => ?_) ?_
        ·go_simp
         refine hK _ _ ?_
         clear hK K
         refine wpAnyIn_done (by kernel_rfl) ?_ _
         (gi_wp2; exact wrapPost_of _ hB hbs hb4 ho4 hE4 hbs4 HRE.out HRB.out hbk HG4.out HB5.out HBE.out HR4.out)
        exact AllReadyIn.nil
       exact AllReadyIn.nil
      exact AllReadyIn.nil
     refine AllReadyIn.cons rfl (fun K hK => ?_) ?_
     ·go_simp
      refine hK _ _ ?_
      clear hK K
      refine wpAnyIn_ready (rs := [0]) (by kernel_rfl) (by simp) ?_
      refine AllReadyIn.cons rfl (fun K hK => ?_) ?_
      ·go_simp
       refine hK _ _ ?_
       clear hK K
       refine wpAnyIn_ready (rs := [5]) (by kernel_rfl) (by simp) ?_
       refine AllReadyIn.cons rfl (fun K hK => ?_) ?_
       ·refine R_append_stepIn Kd.bool (w0 := X) w.heap.size rfl (.tmp 27) (.tmp 31) 170 4 (.bool false) 1 rfl Tryd.underlying170 wr_infoB rfl (by decide) (by decide) (.slice AB bs.length cB) bs (kd == 1) [.bool (kd == 1)] (fun _ => True) (fun _ => False) rfl rfl rfl (fun _ hk => hk.elim) (fun _ _ => trivial) (Kd.R_below HRB.out hbk) (hbk.mono hb4S) (Nat.le_trans hb4S hbk.size) HLB.out ?_
        intro v2 w2 HR3 HB4 hg3
        obtain ⟨A3, c3, rfl⟩ := Kd.R_slice HR3
        rw [List.length_append, List.length_singleton] at HR3
        have hbe := blk_grown hK4 hg3 (R_ne_blk (Kd.R_below HRB.out hbk) hK4 (by decide))
        have cK2 := blk_cell hbe 0
        have fK2 := blk_frozen hbe 0
        have HR4 := Aside0.mk HR3
        have HG4 := Aside0.mk hg3
        have HB5 := Aside0.mk HB4
        have HBE := Aside0.mk hbe
        clear HR3 HB4 hg3 hbe cK cKa
        refine hK _ _ ?_
        clear hK K
        refine wpAnyIn_ready (rs := [6]) (by kernel_rfl) (by simp) ?_
        refine AllReadyIn.cons rfl (fun K hK => ?_) ?_
        ·go_simp
         refine hK _ _ ?_
         clear hK K
         refine wpAnyIn_done (by kernel_rfl) ?_ _
         (gi_wp2; exact wrapPost_of _ hB hbs hb4 ho4 hE4 hbs4 HRE.out HRB.out hbk HG4.out HB5.out HBE.out HR4.out)
        exact AllReadyIn.nil
       exact AllReadyIn.nil
      exact AllReadyIn.nil
     exact AllReadyIn.nil
    exact AllReadyIn.nil
   exact AllReadyIn.nil
  exact AllReadyIn.nil
 case done =>
  rintro D zs V hD rfl ⟨⟨hB, hbs⟩, vE, vB, hE, hK', hRE, hRB⟩ hK
  have hlE : (edgesOf (allSteps (strOfNums l0))).length ≤ 4398046511104 := by simp [edgesOf]; omega
  have hlB : (blanksOf (allSteps (strOfNums l0))).length = (edgesOf (allSteps (strOfNums l0))).length := by simp [edgesOf, blanksOf]
  have hl1 : 1 ≤ (edgesOf (allSteps (strOfNums l0))).length := by simp [edgesOf]
  obtain ⟨L, hL0⟩ : ∃ L, wrapsOf l0 a1 a2 = L := ⟨_, rfl⟩
  have HL0 := Aside0.mk hL0
  unfold wrapsOf at hL0
  generalize edgesOf (allSteps (strOfNums l0)) = es at *
  generalize blanksOf (allSteps (strOfNums l0)) = bl at *
  obtain ⟨AE, cE, rfl⟩ := Kd.R_slice hRE
  obtain ⟨AB, cB, rfl⟩ := Kd.R_slice hRB
  have HE := Aside0.mk hE
  have HK' := Aside0.mk hK'
  have HKD := Aside0.mk hK
  have HRE := Aside0.mk (Kd.R_reads' hRE).2.2
  have HRB := Aside0.mk (Kd.R_reads' hRB).2.2
  have HBV := Aside0.mk hB
  have hDV : D < V.heap.size := blk_lt hK
  clear hE hK' hK hRE hRB hB hbs bs2 hB2 hE2 hK2 hRE2 hRB2 hL2 hlim hN hns hc0
  gi_wp2
  gi_loopw [11, 12] (fun v11 v12 wr => ∃ (out : List Int) (s : Int) (k : Nat), v12 = .int .i64 s ∧ Aside0 (wrapGo es bl a1 a2 k s out = L) ∧ Aside0 (0 ≤ s ∧ s + 1 ≤ (es.length : Int) ∧ (es.length : Int) - 1 - s < (k : Int) ∧ (out.length : Int) ≤ s) ∧ Aside0 ((Kd.int .i64).R 3 wr V.heap.size (fun _ => True) v11 out) ∧ Aside0 (Below V.heap.size V wr))
   (fun _ v12 _ => ((es.length : Int) - intVal v12).toNat)
  case atStart => exact ⟨[], 0, es.length, rfl, ⟨hL0⟩, ⟨by simp; omega⟩, ⟨Kd.R_nil _ _ _ _ _⟩, ⟨Below.refl _ V⟩⟩
  case round =>
   obtain ⟨out, s, k, rfl, HA, HI, HO, HB⟩ := hrel
   obtain ⟨i0, i1, i2, i3⟩ := HI.out
   have cE := blk_cell (blk_below HE.out HB.out) 0
   have cB := blk_cell (blk_below HK'.out HB.out) 0
   have H := HA.out
   clear HA HI hL0
   cases k with
   | zero => exfalso; simp at i2; omega
   | succ k =>
    simp only [wrapGo] at H
    have ew1 : wrap64 ((es.length : Int) - 1) = (es.length : Int) - 1 := by unfold wrap64; omega
    have ew2 : wrap64 ((es.length : Int) - 1 - s) = (es.length : Int) - 1 - s := by unfold wrap64; omega
    by_cases hc : a2 < (es.length : Int) - 1 - s
    ·rw [if_pos hc] at H
     have hcb : decide (a2 < (es.length : Int) - 1 - s) = true := decide_eq_true hc
     have ew3 : wrap64 (s + a2) = s + a2 := by unfold wrap64; omega
     gi_wp2
     gi_loopw [13] (fun v13 wq => ∃ (p : Int) (j : Nat), v13 = .int .i64 p ∧ wq = wr ∧ Aside0 (scanB bl s j p = scanB bl s a2.toNat (s + a2)) ∧ Aside0 (s ≤ p ∧ p ≤ s + a2 ∧ p - s ≤ (j : Int))) (fun v13 _ => (intVal v13 - s).toNat)
     case atStart => exact ⟨s + a2, a2.toNat, rfl, rfl, ⟨rfl⟩, ⟨by omega⟩⟩
     case round =>
      obtain ⟨p, j, rfl, rfl, HS, HP⟩ := hrel
      obtain ⟨p0, p1, p2⟩ := HP.out
      have hs := HS.out
      clear HS HP
      by_cases hps : s < p
      ·have hpb : decide (s < p) = true := decide_eq_true hps
       have g0 : 0 ≤ p := by omega
       have g1 : p < (bl.length : Int) := by omega
       obtain ⟨ad, hA, hx⟩ := Kd.at_bool (Kd.C_below HRB.out HB.out) p g0 g1
       cases hA
       have q0 := eq_true g0
       have q1 := eq_true g1
       cases j with
       | zero => exfalso; simp at p2; omega
       | succ j =>
        simp only [scanB] at hs
        by_cases hbl : rdOf false bl p = false
        ·rw [if_pos ⟨hps, hbl⟩] at hs
         rw [hbl] at hx
         have ew4 : wrap64 (p - 1) = p - 1 := by unfold wrap64; omega
         gi_wp2
         go_roundw
         case rel => exact ⟨p - 1, j, by first | rfl | trivial | simp [ew4], by first | rfl | trivial, ⟨hs⟩, ⟨by omega⟩⟩
         case measure => simp only [intVal, ew4]; omega
        ·rw [if_neg (fun h => hbl h.2)] at hs
         rw [show rdOf false bl p = true by simpa using hbl] at hx
         have hpe : (p == s) = false := by simp; omega
         have hcut : cutOf bl a2 s = p := by unfold cutOf; rw [if_neg (by omega)]; exact hs.symm
         rw [hcut] at H
         clear hcut hs
         have z0 : 0 ≤ p := by omega
         have z1 : p < (es.length : Int) := by omega
         obtain ⟨adE, hA2, hxE⟩ := Kd.at_int (Kd.C_below HRE.out HB.out) (p) z0 z1
         cases hA2
         have y0 := eq_true z0
         have y1 := eq_true z1
         have HLO := Aside0.mk (show (out.length + 1) * 8 ≤ 140737488355328 by omega)
         generalize rd es (p) = ev at *
         gi_wp2_with (gi_at_builtin; refine R_appendIn (Kd.int .i64) (w0 := V) V.heap.size rfl (.tmp 61) (.tmp 68) 38 3 (.int .i64 0) 8 rfl Tryd.underlying38 info3 rfl (by decide) (by decide) _ out (wrap64 (a1 + ev)) [.int .i64 (wrap64 (a1 + ev))] (fun _ => True) (fun _ => False) rfl rfl rfl (fun _ hk => hk.elim) (fun _ _ => trivial) HO.out HB.out HB.out.size HLO.out ?_; intro v1 w1 HR1 HB2 hg1 hnn; have HRn := Aside0.mk HR1; have HBn := Aside0.mk HB2; clear HR1 HB2 hg1 hnn)
         go_roundw
         case rel => exact ⟨out ++ [wrap64 (a1 + ev)], p, k, by first | rfl | trivial | simp [*], ⟨H⟩, ⟨by simp; omega⟩, ⟨HRn.out⟩, ⟨HBn.out⟩⟩
         case measure => simp only [intVal]; omega
      ·have hpb : decide (s < p) = false := decide_eq_false hps
       obtain rfl : s = p := by omega
       have hpe : (s == s) = true := by simp
       have hs2 : scanB bl s j s = s := by have := scanB_le bl s j s (Int.le_refl _); omega
       have hcut : cutOf bl a2 s = s + a2 := by unfold cutOf; rw [if_pos (by rw [← hs, hs2])]
       clear hs2
       rw [hcut] at H
       clear hcut hs
       have z0 : 0 ≤ s + a2 := by omega
       have z1 : s + a2 < (es.length : Int) := by omega
       obtain ⟨adE, hA2, hxE⟩ := Kd.at_int (Kd.C_below HRE.out HB.out) (s + a2) z0 z1
       cases hA2
       have y0 := eq_true z0
       have y1 := eq_true z1
       have HLO := Aside0.mk (show (out.length + 1) * 8 ≤ 140737488355328 by omega)
       generalize rd es (s + a2) = ev at *
       gi_wp2_with (gi_at_builtin; refine R_appendIn (Kd.int .i64) (w0 := V) V.heap.size rfl (.tmp 61) (.tmp 68) 38 3 (.int .i64 0) 8 rfl Tryd.underlying38 info3 rfl (by decide) (by decide) _ out (wrap64 (a1 + ev)) [.int .i64 (wrap64 (a1 + ev))] (fun _ => True) (fun _ => False) rfl rfl rfl (fun _ hk => hk.elim) (fun _ _ => trivial) HO.out HB.out HB.out.size HLO.out ?_; intro v1 w1 HR1 HB2 hg1 hnn; have HRn := Aside0.mk HR1; have HBn := Aside0.mk HB2; clear HR1 HB2 hg1 hnn)
       go_roundw
       case rel => exact ⟨out ++ [wrap64 (a1 + ev)], s + a2, k, by first | rfl | trivial | simp [*], ⟨H⟩, ⟨by simp; omega⟩, ⟨HRn.out⟩, ⟨HBn.out⟩⟩
       case measure => simp only [intVal]; omega
    ·rw [if_neg hc] at H
     have hcb : decide (a2 < (es.length : Int) - 1 - s) = false := decide_eq_false hc
     gi_wp2
     refine ⟨by simp, .inl ⟨_, _, rfl, run_takeDeferred (blk_below HKD.out HB.out), ?_⟩⟩
     refine ⟨_, results_tmp rfl _ _ _, _, rfl, ?_, (HBV.out.trans (HB.out.mono HBV.out.size)).trans (belowK_b (w := w) (Nat.le_refl _) wr D _ _ (by omega) (blk_below HKD.out HB.out) rfl rfl)⟩
     rw [HL0.out, ← H]
     exact R_abides (Kd.R_lower HO.out HBV.out.size) (grownBy_putObj' wr D _) (fun r e => by cases e; exact ⟨_, blk_below HKD.out HB.out, rfl⟩)
 case stop =>
  rintro D c pre W _ _ h _
  exact h.elim
theorem words_wrapped.calls (A0 : Option Addr) (c0 : Nat) (l0 : List Int) (a1 a2 : Int) (r : List Int) (w : World) (hr0 : Kd.C (Kd.int .u8) w A0 l0.length l0) (hc0 : l0.length ≤ c0) (hL : LaidBad w) (h : words_wrapped.f l0 a1 a2 = some r) :
  Calls Tryd.prog 83 #[.slice A0 l0.length c0, .int .i64 a1, .int .i64 a2] w fun e w' => ∃ v0_ : Value, e = .returned (v0_) ∧ Kd.R (Kd.int .i64) 3 w' w.heap.size (fun _ => True) v0_ r ∧ Below w.heap.size w w' := by
 unfold words_wrapped.f at h
 by_cases hl : l0.length ≤ 4398046511103 ∧ 1 ≤ a2 ∧ a2 ≤ 65536
 ·rw [if_pos hl] at h
  cases h
  exact callsIn_wide.1 (words_wrapped.walk A0 c0 l0 a1 a2 w hr0 hc0 hL hl.1 hl.2.1 hl.2.2)
 ·rw [if_neg hl] at h
  cases h

end Go.Proofs.YtijbkiajhicooabDoor.PW

namespace Go.Proofs.YtijbkiajhicooabDoor.PW
open Go.RowKit Go.Proofs.YtijbkiajhicooabDoorW.PrintWords Go.Proofs.YtijbkiajhicooabDoorW.PrintLast Go.Proofs.YtijbkiajhicooabDoorW.PrintMore
attribute [local go_sem] max2_int min2_int max_two min_two max_three min_three max_four min_four   -- for this text's walks alone
set_option linter.unusedVariables false
set_option linter.unusedSimpArgs false

mutual
def words_Wrap.j0 : Nat → List Int → Int → Bool → Option (List Int × Int)
 | 0, _, _, _ => none
 | k + 1, x0, x1, x17 => if x17 = true then (some (([] : List Int), 2)) else ((lines_Count.f x0).bind fun t191 => (words_Wrap.l0 k x0 x1 ([] : List Int) t191 0))
def words_Wrap.l0 : Nat → List Int → Int → List Int → Int → Int → Option (List Int × Int)
 | 0, _, _, _, _, _ => none
 | k + 1, x0, x1, x6, x19, x20 => if x20 < x19 then ((lines_Line.f x0 x20).bind fun bt192 => (if 0 ≤ bt192.1 then (if bt192.1 ≤ bt192.2.1 then (if bt192.2.1 ≤ (x0.length : Int) then ((words_wrapped.f ((x0.take (bt192.2.1 : Int).toNat).drop (bt192.1 : Int).toNat) bt192.1 x1).bind fun t197 => (if x6.length + t197.length < 17592186044416 then (words_Wrap.l0 k x0 x1 (x6 ++ t197) x19 (wrap64 (x20 + 1))) else (none))) else (none)) else (none)) else (none))) else (some (x6, 0))
end
def words_Wrap.f (k : Nat) (l0 : List Int) (a1 : Int) : Option (List Int × Int) := if a1 < 1 then (words_Wrap.j0 k l0 a1 true) else (words_Wrap.j0 k l0 a1 (decide (a1 > 65536)))
set_option maxHeartbeats 8000000 in
set_option maxRecDepth 100000 in
theorem words_Wrap.calls (k : Nat) (A0 : Option Addr) (c0 : Nat) (l0 : List Int) (a1 : Int) (r1 : List Int) (r2 : Int) (w : World) (hr0 : Kd.C (Kd.int .u8) w A0 l0.length l0) (hc0 : l0.length ≤ c0) (hL : LaidBad w) (h : words_Wrap.f k l0 a1 = some (r1, r2)) :
  Calls Tryd.prog 49 #[.slice A0 l0.length c0, .int .i64 a1] w fun e w' => ∃ v0_ : Value, e = .returned (.tuple #[v0_, .int .i64 r2]) ∧ Kd.R (Kd.int .i64) 3 w' w.heap.size (fun _ => True) v0_ r1 ∧ Below w.heap.size w w' := by
 have HR0 := Aside0.mk hr0
 have HC0 := Aside0.mk hc0
 clear hr0 hc0
 have HB := Aside0.mk (Below.refl w.heap.size w)
 have HLB := Aside0.mk hL
 clear hL
 have H : (if a1 < 1 then (words_Wrap.j0 k l0 a1 true) else (words_Wrap.j0 k l0 a1 (decide (a1 > 65536)))) = some (r1, r2) := h
 clear h
 have HC3 := Aside0.mk H
 clear H
 go_enter Tryd.func49, Tryd.ntmps49
 go_upto_region 1 with (fail)
 go_cut [17] (fun v17 wc => ∃ (kq : Nat) (x17_2 : Bool), v17 = .bool x17_2 ∧ Aside0 (words_Wrap.j0 kq l0 a1 x17_2 = some (r1, r2)) ∧ Aside0 (kq ≤ k) ∧ Aside0 (Below w.heap.size w wc))
 case first =>
  have H := HC3.out
  clear HC3
  by_cases c4 : a1 < 1
  ·rw [if_pos c4] at H
   have c4b0 : decide (a1 < 1) = true := decide_eq_true c4
   clear c4
   (first | rw [c4b0] | (simp only [i64_w, i32_w]; rw [c4b0]) | skip)
   have H' := Aside0.mk H
   clear H
   go_wp2
   go_meet
   case rel => exact ⟨_, (true), (by first | rfl | (simp; done) | (simp [*]; done)), H', ⟨by first | omega | exact Nat.le_refl _⟩, ⟨by repeat (first | (with_reducible first | exact HB.out | apply below_alloc | apply pw_below_drewN | apply below_drew1) | exact HB.out)⟩⟩
  ·rw [if_neg c4] at H
   have c4b0 : decide (a1 < 1) = false := decide_eq_false c4
   clear c4
   (first | rw [c4b0] | (simp only [i64_w, i32_w]; rw [c4b0]) | skip)
   have H' := Aside0.mk H
   clear H
   go_wp2
   go_meet
   case rel => exact ⟨_, (decide (a1 > 65536)), (by first | rfl | (simp; done) | (simp [*]; done)), H', ⟨by first | omega | exact Nat.le_refl _⟩, ⟨by repeat (first | (with_reducible first | exact HB.out | apply below_alloc | apply pw_below_drewN | apply below_drew1) | exact HB.out)⟩⟩
 case rest =>
  clear HC3
  try clear p2
  try clear c4
  try clear c4b0
  obtain ⟨kq, x17_2, rfl, HA, HJ2, HB⟩ := hcut
  cases kq with
  | zero => exact absurd HA.out (by simp [words_Wrap.j0])
  | succ kj2 =>
   have H := HA.out
   clear HA
   simp only [words_Wrap.j0] at H
   by_cases c5 : x17_2 = true
   ·subst c5
    have H1 : (some (([] : List Int), 2)) = some (r1, r2) := by rw [if_pos rfl] at H; exact H
    clear H
    have H := H1
    clear H1
    simp only [Option.some.injEq, Prod.mk.injEq] at H
    obtain ⟨rfl, rfl⟩ := H
    go_wp2
    go_ret2
    exact ⟨_, by first | rfl | (simp [errW_none, errW_some] <;> rfl) | (simp [*, errW_none, errW_some] <;> rfl), by first | exact Kd.R_nil _ _ _ _ _ | exact Kd.N_nil _ _ _ _ _ | exact Kd.V_nil _ _ _ _ _ | exact Kd.Q_nil _ _ _ _ _ | exact Kd.S_nil _ _ _ _ _, by repeat (first | (with_reducible first | exact HB.out | apply below_alloc | apply pw_below_drewN | apply below_drew1) | exact HB.out)⟩
   ·replace c5 := Bool.eq_false_iff.mpr c5
    subst c5
    have H1 : ((lines_Count.f l0).bind fun t191 => (words_Wrap.l0 kj2 l0 a1 ([] : List Int) t191 0)) = some (r1, r2) := by rw [if_neg (show ¬ (false = true) by decide)] at H; exact H
    clear H
    have H := H1
    clear H1
    replace H := Option.bind_eq_some_iff.mp H
    obtain ⟨t191, A60, H⟩ := H
    replace H : (words_Wrap.l0 kj2 l0 a1 ([] : List Int) t191 0) = some (r1, r2) := H
    have A6 := Aside0.mk A60
    clear A60
    have H' := Aside0.mk H
    clear H
    go_wp2_with (first | ((with_reducible refine gate_callee (f := 82) rfl ?_); refine goesL_ (some 19) rfl rfl Tryd.func82 (by kernel_rfl) rfl #[.slice A0 l0.length c0] rfl (by (try simp only [List.map_toArray, List.map_cons, List.map_nil]); first | done | rfl | (simp only [List.length_drop, List.length_take]; rfl)) ?_; (with_reducible refine (lines_Count.calls _ _ l0 t191 _ ?side1 ?side2 A6.out).mono ?_); (case side1 => repeat (first | exact (Kd.C_below HR0.out HB.out) | (with_reducible refine Kd.C_alloc ?_ _) | (with_reducible refine Kd.C_drewN ?_ _) | (with_reducible refine Kd.C_drew ?_))); (case side2 => exact HC0.out); rintro e w7 ⟨rfl, hb⟩; refine ⟨_, rfl, ?_⟩; have n0_ := Aside0.mk (below_step (by repeat (first | (with_reducible first | exact HB.out | apply below_alloc | apply pw_below_drewN | apply below_drew1) | exact HB.out)) hb); clear HB; have HB := n0_; clear n0_; (try clear hb); (try clear hb2); (try clear hk); (try clear hi)))
    go_loopg [6, 20] kj2 (fun kq v6 v20 w' => ∃ (x6_2 : List Int) (x20_2 : Int), v20 = .int .i64 x20_2 ∧ Aside0 (words_Wrap.l0 kq l0 a1 x6_2 t191 x20_2 = some (r1, r2)) ∧ Aside0 (kq ≤ kj2) ∧ Aside0 (Kd.R (Kd.int .i64) 3 w' w.heap.size (fun _ => True) v6 x6_2) ∧ Aside0 (Below w.heap.size w w'))
    case atStart => exact ⟨(([] : List Int)), (0), (by first | rfl | (simp; done) | (simp [*]; done)), H', ⟨Nat.le_refl _⟩, ⟨by first | exact Kd.R_nil _ _ _ _ _ | exact Kd.N_nil _ _ _ _ _ | exact Kd.V_nil _ _ _ _ _ | exact Kd.Q_nil _ _ _ _ _ | exact Kd.S_nil _ _ _ _ _⟩, ⟨by repeat (first | (with_reducible first | exact HB.out | apply below_alloc | apply pw_below_drewN | apply below_drew1) | exact HB.out)⟩⟩
    case round =>
     clear H'
     try clear p2
     try clear c4
     try clear c4b0
     try clear c5
     try clear p2
     obtain ⟨x6_2, x20_2, rfl, HA, HK2, HO_6, HB⟩ := hrel
     cases gk with
     | zero => exact absurd HA.out (by simp [words_Wrap.l0])
     | succ k2 =>
      have H := HA.out
      clear HA
      simp only [words_Wrap.l0] at H
      by_cases c8 : x20_2 < t191
      ·rw [if_pos c8] at H
       have c8b0 : decide (x20_2 < t191) = true := decide_eq_true c8
       clear c8
       replace H := Option.bind_eq_some_iff.mp H
       obtain ⟨⟨t192, t193, t194, t195⟩, A90, H⟩ := H
       replace H : (if 0 ≤ t192 then (if t192 ≤ t193 then (if t193 ≤ (l0.length : Int) then ((words_wrapped.f ((l0.take (t193 : Int).toNat).drop (t192 : Int).toNat) t192 a1).bind fun t197 => (if x6_2.length + t197.length < 17592186044416 then (words_Wrap.l0 k2 l0 a1 (x6_2 ++ t197) t191 (wrap64 (x20_2 + 1))) else (none))) else (none)) else (none)) else (none)) = some (r1, r2) := H
       have A9 := Aside0.mk A90
       clear A90
       by_cases c10 : 0 ≤ t192
       ·rw [if_pos c10] at H
        have c10b0 := eq_true c10
        have c10b1 : decide (0 ≤ t192) = true := decide_eq_true c10
        clear c10
        by_cases c11 : t192 ≤ t193
        ·rw [if_pos c11] at H
         have c11b0 := eq_true c11
         have c11b1 : decide (t192 ≤ t193) = true := decide_eq_true c11
         clear c11
         by_cases c12 : t193 ≤ (l0.length : Int)
         ·rw [if_pos c12] at H
          have c12b0 := eq_true c12
          have c12b1 : decide (t193 ≤ (l0.length : Int)) = true := decide_eq_true c12
          clear c12
          replace H := Option.bind_eq_some_iff.mp H
          obtain ⟨t197, A130, H⟩ := H
          replace H : (if x6_2.length + t197.length < 17592186044416 then (words_Wrap.l0 k2 l0 a1 (x6_2 ++ t197) t191 (wrap64 (x20_2 + 1))) else (none)) = some (r1, r2) := H
          have A13 := Aside0.mk A130
          clear A130
          by_cases c14 : x6_2.length + t197.length < 17592186044416
          ·rw [if_pos c14] at H
           have LMc14 := Aside0.mk c14
           clear c14
           obtain ⟨y200, hy200⟩ : ∃ y_ : List Int, y_ = (x6_2 ++ t197) := ⟨_, rfl⟩
           replace H : (words_Wrap.l0 k2 l0 a1 y200 t191 (wrap64 (x20_2 + 1))) = some (r1, r2) := by first | (rw [hy200]; with_reducible exact H) | (have H2_ := (Option.bind_some _ _).symm.trans H; rw [hy200]; with_reducible exact H2_) | (have H2_ := (Option.bind_some _ _).symm.trans H; with_reducible exact H2_) | with_reducible exact H | (rw [hy200]; exact H) | exact H
           have Ny200 := Aside0.mk hy200
           clear hy200
           have H' := Aside0.mk H
           clear H
           go_wp2_with (first | ((with_reducible refine gate_callee (f := 56) rfl ?_); refine goesL_ (some 26) rfl rfl Tryd.func56 (by kernel_rfl) rfl #[.slice A0 l0.length c0, .int .i64 x20_2] rfl (by (try simp only [List.map_toArray, List.map_cons, List.map_nil]); first | done | rfl | (simp only [List.length_drop, List.length_take]; rfl)) ?_; (with_reducible refine (lines_Line.calls _ _ l0 x20_2 t192 t193 t194 t195 _ ?side1 ?side2 A9.out).mono ?_); (case side1 => repeat (first | exact (Kd.C_below HR0.out HB.out) | (with_reducible refine Kd.C_alloc ?_ _) | (with_reducible refine Kd.C_drewN ?_ _) | (with_reducible refine Kd.C_drew ?_))); (case side2 => exact HC0.out); rintro e w15 ⟨rfl, hb⟩; refine ⟨_, rfl, ?_⟩; have n0_ := Aside0.mk (Kd.R_below (by (with_reducible repeat (first | apply Kd.R_alloc | apply Kd.R_drewN | apply Kd.R_drew)); exact HO_6.out) hb); have n1_ := Aside0.mk (below_step (by repeat (first | (with_reducible first | exact HB.out | apply below_alloc | apply pw_below_drewN | apply below_drew1) | exact HB.out)) hb); clear HO_6; clear HB; have HO_6 := n0_; have HB := n1_; clear n0_ n1_; (try clear hb); (try clear hb2); (try clear hk); (try clear hi); obtain ⟨i016, hi016, _, hsz16, _⟩ := info_parts info5; obtain ⟨A16, hcut16, hA16, hC16⟩ := print_mid_of (P := Tryd.prog) (Value.int .u8) 0 22 5 .i64 .i64 Tryd.underlying22 hi016 hsz16 A0 c0 l0 t192 t193 (of_decide_eq_true (by first | (with_reducible assumption) | assumption)) (by first | omega | exact of_decide_eq_true (by first | (with_reducible assumption) | assumption)) (of_decide_eq_true (by first | (with_reducible assumption) | assumption)) HC0.out; have HR196 := Aside0.mk (Kd.C_of_reads (h1 := fun _ => rfl) (hA16 _ (Kd.reads_of_C HR0.out))); have HC196 := Aside0.mk hC16; clear hA16 hC16 hi016 hsz16) | ((with_reducible refine gate_callee (f := 83) rfl ?_); refine goesL_ (some 38) rfl rfl Tryd.func83 (by kernel_rfl) rfl #[.slice A16 ((l0.take (t193 : Int).toNat).drop (t192 : Int).toNat).length (c0 - t192.toNat), .int .i64 t192, .int .i64 a1] rfl (by (try simp only [List.map_toArray, List.map_cons, List.map_nil]); first | done | (rw [show ((l0.take (t193 : Int).toNat).drop (t192 : Int).toNat).length = (t193.toNat - t192.toNat) from (by rw [List.length_drop, List.length_take]; have h_ : (t193 : Int) ≤ (l0.length : Int) := of_decide_eq_true (by first | (with_reducible assumption) | assumption); omega)] <;> rfl) | rfl | (simp only [List.length_drop, List.length_take]; rfl)) ?_; (with_reducible refine (words_wrapped.calls _ _ ((l0.take (t193 : Int).toNat).drop (t192 : Int).toNat) t192 a1 t197 _ ?side1 ?side2 ?side3 A13.out).mono ?_); (case side1 => repeat (first | exact (Kd.C_below HR196.out HB.out) | (with_reducible refine Kd.C_alloc ?_ _) | (with_reducible refine Kd.C_drewN ?_ _) | (with_reducible refine Kd.C_drew ?_))); (case side2 => exact HC196.out); (case side3 => exact laid_below HLB.out (by repeat (first | (with_reducible first | exact HB.out | apply below_alloc | apply pw_below_drewN | apply below_drew1) | exact HB.out))); rintro e w17 ⟨v198, rfl, ho0, hb⟩; refine ⟨_, rfl, ?_⟩; have n0_ := Aside0.mk (Kd.R_elder' (by (with_reducible repeat (first | apply Kd.R_alloc | apply Kd.R_drewN | apply Kd.R_drew)); exact HO_6.out) (Kd.R_base ho0) hb); have n1_ := Aside0.mk (Kd.R_lower (Kd.R_new' ho0 (Kd.R_lt (by (with_reducible repeat (first | apply Kd.R_alloc | apply Kd.R_drewN | apply Kd.R_drew)); exact HO_6.out))) (below_size (by repeat (first | (with_reducible first | exact HB.out | apply below_alloc | apply pw_below_drewN | apply below_drew1) | exact HB.out)))); have n2_ := Aside0.mk (below_step (by repeat (first | (with_reducible first | exact HB.out | apply below_alloc | apply pw_below_drewN | apply below_drew1) | exact HB.out)) hb); clear HO_6; clear HB; have HO_6 := n0_; have HO199 := n1_; have HB := n2_; clear n0_ n1_ n2_; (try clear hb); (try clear hb2); (try clear hk); (try clear hi); (try clear ho0); obtain ⟨Ao19, co19, eo19⟩ := Kd.R_slice HO199.out; subst eo19) | ((with_reducible refine gate_builtin (b := .append) (xs := #[.tmp 31, .tmp 38]) rfl ?_); at_builtin; refine Kd.R_append_rows (Kd.int .i64) (w0 := w) w.heap.size rfl (.tmp 31) (.tmp 38) 38 3 (.int .i64 0) 8 rfl Tryd.underlying38 info3 rfl (by decide) (by omega) u6 x6_2 t197 _ _ _ (fun k_ => some k_ ≠ (.slice Ao19 t197.length co19 : Value).ownBlock) (fun _ => False) rfl rfl ?aO ?aR (fun _ _ h => h) (fun _ h => h.elim) ?aF ?aB ?aS ?aL ?_; (case aR => repeat (first | exact (Kd.R_reads' HO199.out).2.2 | (with_reducible refine Kd.C_alloc ?_ _) | (with_reducible refine Kd.C_drewN ?_ _) | (with_reducible refine Kd.C_drew ?_))); (case aB => exact (by repeat (first | (with_reducible first | exact HB.out | apply below_alloc | apply pw_below_drewN | apply below_drew1) | exact HB.out))); (case aF => exact (fun k_ hk => Kd.fresh' (Kd.R_lt (by (with_reducible repeat (first | apply Kd.R_alloc | apply Kd.R_drewN | apply Kd.R_drew)); exact HO199.out)) k_ hk)); (case aO => exact (by (with_reducible repeat (first | apply Kd.R_alloc | apply Kd.R_drewN | apply Kd.R_drew)); exact Kd.R_mono HO_6.out (fun _ hk => hk.2))); (case aS => exact (below_size (by repeat (first | (with_reducible first | exact HB.out | apply below_alloc | apply pw_below_drewN | apply below_drew1) | exact HB.out)))); (case aL => have := LMc14.out; omega); intro v201 w18 ho hb hg hat; rw [← Ny200.out] at ho; have n0_ := Aside0.mk (Kd.R_after (ok := (fun _ => True)) (by (with_reducible repeat (first | apply Kd.R_alloc | apply Kd.R_drewN | apply Kd.R_drew)); exact HO199.out) hg hat); have n1_ := Aside0.mk (hb); have n2_ := Aside0.mk (ho); clear HO199; clear HB; clear HO_6; have HO199 := n0_; have HB := n1_; have HO202 := n2_; clear n0_ n1_ n2_; clear ho hb hg hat))
           go_roundg k2
           case measure => have := HJ2.out; have := HK2.out; omega
           case rel => exact ⟨(y200), (wrap64 (x20_2 + 1)), (by first | rfl | (simp; done) | (simp [*]; done)), H', ⟨by have := HJ2.out; have := HK2.out; omega⟩, ⟨by (with_reducible repeat (first | apply Kd.R_alloc | apply Kd.R_drewN | apply Kd.R_drew)); exact Kd.R_mono HO202.out (fun _ hk => trivial)⟩, ⟨by repeat (first | (with_reducible first | exact HB.out | apply below_alloc | apply pw_below_drewN | apply below_drew1) | exact HB.out)⟩⟩
          ·rw [if_neg c14] at H
           exact absurd H (by simp)
         ·rw [if_neg c12] at H
          exact absurd H (by simp)
        ·rw [if_neg c11] at H
         exact absurd H (by simp)
       ·rw [if_neg c10] at H
        exact absurd H (by simp)
      ·rw [if_neg c8] at H
       have c8b0 : decide (x20_2 < t191) = false := decide_eq_false c8
       clear c8
       simp only [Option.some.injEq, Prod.mk.injEq] at H
       obtain ⟨rfl, rfl⟩ := H
       go_wp2
       go_ret2
       exact ⟨_, by first | rfl | (simp [errW_none, errW_some] <;> rfl) | (simp [*, errW_none, errW_some] <;> rfl), by (with_reducible repeat (first | apply Kd.R_alloc | apply Kd.R_drewN | apply Kd.R_drew)); exact HO_6.out, by repeat (first | (with_reducible first | exact HB.out | apply below_alloc | apply pw_below_drewN | apply below_drew1) | exact HB.out)⟩

end Go.Proofs.YtijbkiajhicooabDoor.PW

namespace Go.Proofs.YtijbkiajhicooabDoor.PW
open Go.RowKit Go.Proofs.YtijbkiajhicooabDoorW.PrintWords Go.Proofs.YtijbkiajhicooabDoorW.PrintLast Go.Proofs.YtijbkiajhicooabDoorW.PrintMore
attribute [local go_sem] max2_int min2_int max_two min_two max_three min_three max_four min_four   -- for this text's walks alone
set_option linter.unusedVariables false
set_option linter.unusedSimpArgs false

def galleyref01_SameInts.l0 : Nat → List Int → List Int → Int → Option (Bool)
 | 0, _, _, _ => none
 | k + 1, x0, x1, x5 => if x5 < (x0.length : Int) then (if 0 ≤ x5 then (if x5 < (x1.length : Int) then (if (rd x0 x5) = (rd x1 x5) then (galleyref01_SameInts.l0 k x0 x1 (wrap64 (x5 + 1))) else (some false)) else (none)) else (none)) else (some true)
def galleyref01_SameInts.f (k : Nat) (l0 : List Int) (l1 : List Int) : Option (Bool) := if (l0.length : Int) = (l1.length : Int) then (galleyref01_SameInts.l0 k l0 l1 0) else (some false)
set_option maxHeartbeats 8000000 in
set_option maxRecDepth 100000 in
theorem galleyref01_SameInts.calls (k : Nat) (A0 : Option Addr) (c0 : Nat) (l0 : List Int) (A1 : Option Addr) (c1 : Nat) (l1 : List Int) (r : Bool) (w : World) (hr0 : Kd.C (Kd.int .i64) w A0 l0.length l0) (hc0 : l0.length ≤ c0) (hr1 : Kd.C (Kd.int .i64) w A1 l1.length l1) (hc1 : l1.length ≤ c1) (h : galleyref01_SameInts.f k l0 l1 = some r) :
  Calls Tryd.prog 50 #[.slice A0 l0.length c0, .slice A1 l1.length c1] w fun e w' => e = .returned (.bool r) ∧ Drawn0 w w' := by
 have HR0 := Aside0.mk hr0
 have HC0 := Aside0.mk hc0
 clear hr0 hc0
 have HR1 := Aside0.mk hr1
 have HC1 := Aside0.mk hc1
 clear hr1 hc1
 have H : (if (l0.length : Int) = (l1.length : Int) then (galleyref01_SameInts.l0 k l0 l1 0) else (some false)) = some r := h
 clear h
 by_cases c3 : (l0.length : Int) = (l1.length : Int)
 ·rw [if_pos c3] at H
  have c3b0 : ((l0.length : Int) == (l1.length : Int)) = true := beq_iff_eq.mpr c3
  have c3b1 : ((l0.length : Int) != (l1.length : Int)) = false := bne_eq_false_iff_eq.mpr c3
  have c3b2 : (l0.length == l1.length) = true := by first | simpa using c3 | (simp at c3 ⊢; omega)
  clear c3
  have H' := Aside0.mk H
  clear H
  go_enter Tryd.func50, Tryd.ntmps50
  go_wp2
  repeat (go_quiet (fail); try go_wp2)
  go_loopg [5] k (fun kq v5 w' => ∃ (x5_1 : Int), v5 = .int .i64 x5_1 ∧ Aside0 (galleyref01_SameInts.l0 kq l0 l1 x5_1 = some r) ∧ Aside0 (kq ≤ k) ∧ Drawn0 w w')
  case atStart => exact ⟨(0), (by first | rfl | (simp; done) | (simp [*]; done)), H', ⟨Nat.le_refl _⟩, by repeat (first | exact Drawn0.refl _ | apply Drawn0.step)⟩
  case round =>
   clear H'
   try clear c1
   try clear p2
   try clear c3
   try clear c3b0
   try clear c3b1
   try clear c3b2
   obtain ⟨x5_1, rfl, HA, HK1, ⟨m1, rfl⟩⟩ := hrel
   cases gk with
   | zero => exact absurd HA.out (by simp [galleyref01_SameInts.l0])
   | succ k1 =>
    have H := HA.out
    clear HA
    simp only [galleyref01_SameInts.l0] at H
    by_cases c4 : x5_1 < (l0.length : Int)
    ·rw [if_pos c4] at H
     have c4b0 : decide (x5_1 < (l0.length : Int)) = true := decide_eq_true c4
     clear c4
     by_cases c5 : 0 ≤ x5_1
     ·rw [if_pos c5] at H
      have c5b0 : decide (0 ≤ x5_1) = true := decide_eq_true c5
      clear c5
      by_cases c6 : x5_1 < (l1.length : Int)
      ·rw [if_pos c6] at H
       have c6b0 : decide (x5_1 < (l1.length : Int)) = true := decide_eq_true c6
       clear c6
       by_cases c7 : (rd l0 x5_1) = (rd l1 x5_1)
       ·rw [if_pos c7] at H
        have c7b0 : ((rd l0 x5_1) == (rd l1 x5_1)) = true := beq_iff_eq.mpr c7
        have c7b1 : ((rd l0 x5_1) != (rd l1 x5_1)) = false := bne_eq_false_iff_eq.mpr c7
        clear c7
        have H' := Aside0.mk H
        clear H
        have p203 : 0 ≤ (x5_1 : Int) := of_decide_eq_true (by first | (with_reducible assumption) | assumption)
        have q203 : x5_1 < (l0.length : Int) := of_decide_eq_true (by first | (with_reducible assumption) | assumption)
        obtain ⟨ad203, e203, hx203_0⟩ := Kd.at_int HR0.out x5_1 p203 q203
        cases e203
        replace p203 := eq_true p203
        replace q203 := eq_true q203
        have p204 : 0 ≤ (x5_1 : Int) := of_decide_eq_true (by first | (with_reducible assumption) | assumption)
        have q204 : x5_1 < (l1.length : Int) := of_decide_eq_true (by first | (with_reducible assumption) | assumption)
        obtain ⟨ad204, e204, hx204_0⟩ := Kd.at_int HR1.out x5_1 p204 q204
        cases e204
        replace p204 := eq_true p204
        replace q204 := eq_true q204
        go_wp2
        repeat (go_quiet (fail); try go_wp2)
        go_roundg k1
        case measure => have := HK1.out; omega
        case rel => exact ⟨(wrap64 (x5_1 + 1)), (by first | rfl | (simp; done) | (simp [*]; done)), H', ⟨by have := HK1.out; omega⟩, by repeat (first | exact Drawn0.refl _ | apply Drawn0.step)⟩
       ·rw [if_neg c7] at H
        have c7b0 : ((rd l0 x5_1) == (rd l1 x5_1)) = false := beq_eq_false_iff_ne.mpr c7
        have c7b1 : ((rd l0 x5_1) != (rd l1 x5_1)) = true := bne_iff_ne.mpr c7
        obtain rfl := Option.some.inj H
        have p203 : 0 ≤ (x5_1 : Int) := of_decide_eq_true (by first | (with_reducible assumption) | assumption)
        have q203 : x5_1 < (l0.length : Int) := of_decide_eq_true (by first | (with_reducible assumption) | assumption)
        obtain ⟨ad203, e203, hx203_0⟩ := Kd.at_int HR0.out x5_1 p203 q203
        cases e203
        replace p203 := eq_true p203
        replace q203 := eq_true q203
        have p204 : 0 ≤ (x5_1 : Int) := of_decide_eq_true (by first | (with_reducible assumption) | assumption)
        have q204 : x5_1 < (l1.length : Int) := of_decide_eq_true (by first | (with_reducible assumption) | assumption)
        obtain ⟨ad204, e204, hx204_0⟩ := Kd.at_int HR1.out x5_1 p204 q204
        cases e204
        replace p204 := eq_true p204
        replace q204 := eq_true q204
        go_wp2
        repeat (go_quiet (fail); try go_wp2)
        go_ret
        exact ⟨by first | rfl | (simp; done) | (simp [*]; done), by repeat (first | exact Drawn0.refl _ | apply Drawn0.step)⟩
      ·rw [if_neg c6] at H
       exact absurd H (by simp)
     ·rw [if_neg c5] at H
      exact absurd H (by simp)
    ·rw [if_neg c4] at H
     have c4b0 : decide (x5_1 < (l0.length : Int)) = false := decide_eq_false c4
     clear c4
     obtain rfl := Option.some.inj H
     go_wp2
     repeat (go_quiet (fail); try go_wp2)
     go_ret
     exact ⟨by first | rfl | (simp; done) | (simp [*]; done), by repeat (first | exact Drawn0.refl _ | apply Drawn0.step)⟩
 ·rw [if_neg c3] at H
  have c3b0 : ((l0.length : Int) == (l1.length : Int)) = false := beq_eq_false_iff_ne.mpr c3
  have c3b1 : ((l0.length : Int) != (l1.length : Int)) = true := bne_iff_ne.mpr c3
  have c3b2 : (l0.length == l1.length) = false := by first | simpa using c3 | (simp at c3 ⊢; omega)
  obtain rfl := Option.some.inj H
  go_enter Tryd.func50, Tryd.ntmps50
  go_wp2
  repeat (go_quiet (fail); try go_wp2)
  go_ret
  exact ⟨by first | rfl | (simp; done) | (simp [*]; done), by repeat (first | exact Drawn0.refl _ | apply Drawn0.step)⟩

end Go.Proofs.YtijbkiajhicooabDoor.PW

namespace Go.Proofs.YtijbkiajhicooabDoor.PW
open Go.RowKit Go.Proofs.YtijbkiajhicooabDoorW.PrintWords Go.Proofs.YtijbkiajhicooabDoorW.PrintLast Go.Proofs.YtijbkiajhicooabDoorW.PrintMore
attribute [local go_sem] max2_int min2_int max_two min_two max_three min_three max_four min_four   -- for this text's walks alone
set_option linter.unusedVariables false
set_option linter.unusedSimpArgs false

def wkT : List Int := [97, 98, 32, 99, 95, 57, 44, 32, 195, 169, 120]
def wkC : List Int := [97, 9, 98]
def wkW : List Int := [97, 97, 32, 98, 98, 32, 99, 99]
def wkH : List S44 := [⟨0, 2⟩, ⟨3, 6⟩, ⟨8, 11⟩]
theorem wk_around : words_Around.f 30 wkT 9 = some (8, 11, 3, 0) := by kernel_rfl
theorem wk_next : words_Next.f 30 wkT 3 = some (8, 0) := by kernel_rfl
theorem wk_prev : words_Prev.f 30 wkT 8 = some (3, 0) := by kernel_rfl
theorem wk_column : words_Column.f wkC 3 4 = some (5, 0) := by kernel_rfl
theorem wk_wrap : words_Wrap.f 30 wkW 4 = some ([3, 6], 0) := by kernel_rfl
theorem wk_all : words_All.f 30 wkT = some wkH := by kernel_rfl
theorem wk_same : galleyref22_SameHits.f 30 wkH wkH = some true := by kernel_rfl
theorem wk_ints : galleyref01_SameInts.f 30 [3, 6] [3, 6] = some true := by kernel_rfl
theorem wk_kind : words_Kind.f 3 95 1 true = some 3 := by kernel_rfl
def galleylaw22_wakes.f : Option Bool := some true
theorem C_const {k : IntKind} {w : World} {g : Nat} {t : TypeId} {fr : Nat × Nat} (l : List Int) (cs : Array Value) (hcs : cs = (l.map (Value.int k)).toArray) (h : w.heap[g]? = some (.cells cs t fr)) (hl : l.length ≤ 9223372036854775807) : Kd.C (Kd.int k) w (some ⟨g, 0, none⟩) l.length l :=
 Kd.C_of_reads (enc := Value.int k) (d := (0 : Int)) (h1 := fun _ => rfl) ⟨rfl, hl, fun _ => ⟨_, rfl, fun j hj => by
  rw [add_plain, cell_of_row w g j cs t fr h]
  subst hcs
  simp [hj]⟩⟩
theorem R_wkH (w W : World) (hB : Below w.heap.size w W) : k44.R 44 (W.alloc (.cells #[.int .i64 0, .int .i64 2, .int .i64 3, .int .i64 6, .int .i64 8, .int .i64 11] 44)) w.heap.size (fun _ => True) (.slice (some ⟨W.heap.size, 0, none⟩) 3 3) wkH := by
 have h2 := World.ownsRow_lit (base := w.heap.size) (e := 44) (size := 2) W #[.int .i64 0, .int .i64 2, .int .i64 3, .int .i64 6, .int .i64 8, .int .i64 11] 3 hB.size (by simp [maxLen]) (by simp)
 refine ⟨fun _ _ => trivial, _, (by simpa using h2 : World.ownsRow _ _ _ 2 _ 3 _), rfl, fun j p hj => ?_⟩
 match j, hj with
 | 0, hj => cases hj; exact k44_mkM _ _ _ ⟨0, 2⟩
 | 1, hj => cases hj; exact k44_mkM _ _ _ ⟨3, 6⟩
 | 2, hj => cases hj; exact k44_mkM _ _ _ ⟨8, 11⟩
 | j + 3, hj => simp [wkH] at hj
set_option maxRecDepth 100000 in
set_option maxHeartbeats 4000000 in
theorem galleylaw22_wakes.walk (w : World) (hL : LaidBad w) :
  Calls Tryd.prog 19 #[] w fun e w' => e = .returned (.bool true) ∧ Below w.heap.size w w' := by
 have kc := fun (w : World) (C : Array Value) (n c : Nat) => Lib.run_convert_bytes_const (P := Tryd.prog) w 22 5 C n c Tryd.underlying22 Tryd.underlying5
 have hu := Tryd.underlying44
 have hu2 := Tryd.underlying50
 obtain ⟨W1, hW1⟩ : ∃ W1, w.alloc (.cells #[.int .u8 97, .int .u8 98, .int .u8 32, .int .u8 99, .int .u8 95, .int .u8 57, .int .u8 44, .int .u8 32, .int .u8 195, .int .u8 169, .int .u8 120] 5 (11, 12)) = W1 := ⟨_, rfl⟩
 have hB1 : Below w.heap.size w W1 := by rw [← hW1]; exact (Below.refl _ w).alloc (Nat.le_refl _) _
 have HB1 := Aside0.mk hB1
 have HT1 : Aside0 (Kd.C (Kd.int .u8) W1 (some ⟨w.heap.size, 0, none⟩) wkT.length wkT) := Aside0.mk (C_const (t := 5) (fr := (11, 12)) wkT _ rfl (by rw [← hW1]; exact World.alloc_heap_new w _) (by decide))
 have HL1 := Aside0.mk (laid_below hL hB1)
 have HL := Aside0.mk hL
 clear hL hB1
 go_enter Tryd.func19, Tryd.ntmps19
 go_wp2_with fail
 refine (words_Around.calls 30 _ 11 wkT 9 8 11 3 0 _ HT1.out (Nat.le_refl _) HL1.out wk_around).mono ?_
 rintro e w2 ⟨rfl, hb2⟩
 have HB2 := Aside0.mk (below_step HB1.out hb2)
 have HT2 := Aside0.mk (Kd.C_below HT1.out hb2)
 clear hb2 hW1 HB1 HT1 HL1
 go_wp2_with fail
 have HB2' := Aside0.mk (below_alloc HB2.out (.cells #[.int .i64 8, .int .i64 11] 44))
 have HT2' := Aside0.mk (Kd.C_alloc HT2.out (.cells #[.int .i64 8, .int .i64 11] 44))
 refine (words_Next.calls 30 _ 11 wkT 3 8 0 _ HT2'.out (Nat.le_refl _) (laid_below HL.out HB2'.out) wk_next).mono ?_
 rintro e w3 ⟨rfl, hb3⟩
 have HG3 := Aside0.mk (blk_below (blk_new w2 (.cells #[.int .i64 8, .int .i64 11] 44)) hb3)
 have HB3 := Aside0.mk (below_step HB2'.out hb3)
 have HT3 := Aside0.mk (Kd.C_below HT2'.out hb3)
 clear hb3 HB2 HT2 HB2' HT2'
 go_wp2_with fail
 refine (words_Prev.calls 30 _ 11 wkT 8 3 0 _ HT3.out (Nat.le_refl _) (laid_below HL.out HB3.out) wk_prev).mono ?_
 rintro e w4 ⟨rfl, hb4⟩
 have HG4 := Aside0.mk (blk_below HG3.out hb4)
 have HB4 := Aside0.mk (below_step HB3.out hb4)
 have HT4 := Aside0.mk (Kd.C_below HT3.out hb4)
 clear hb4 HG3 HB3 HT3
 go_wp2_with fail
 have HB4' := Aside0.mk (below_alloc HB4.out (.cells #[.int .u8 97, .int .u8 9, .int .u8 98] 5 (3, 4)))
 have HT4' := Aside0.mk (Kd.C_alloc HT4.out (.cells #[.int .u8 97, .int .u8 9, .int .u8 98] 5 (3, 4)))
 have HC4 : Aside0 (Kd.C (Kd.int .u8) (w4.alloc (.cells #[.int .u8 97, .int .u8 9, .int .u8 98] 5 (3, 4))) (some ⟨w4.heap.size, 0, none⟩) wkC.length wkC) := Aside0.mk (C_const (t := 5) (fr := (3, 4)) wkC _ rfl (World.alloc_heap_new w4 _) (by decide))
 refine (words_Column.calls _ 3 wkC 3 4 5 0 _ HC4.out (Nat.le_refl _) (laid_below HL.out HB4'.out) wk_column).mono ?_
 rintro e w5 ⟨rfl, hb5⟩
 have HG5 := Aside0.mk (blk_below (blk_alloc HG4.out (.cells #[.int .u8 97, .int .u8 9, .int .u8 98] 5 (3, 4))) hb5)
 have HB5 := Aside0.mk (below_step HB4'.out hb5)
 have HT5 := Aside0.mk (Kd.C_below HT4'.out hb5)
 clear hb5 HG4 HB4 HT4 HB4' HT4' HC4
 go_wp2_with fail
 have HB5' := Aside0.mk (below_alloc HB5.out (.cells #[.int .u8 97, .int .u8 97, .int .u8 32, .int .u8 98, .int .u8 98, .int .u8 32, .int .u8 99, .int .u8 99] 5 (8, 9)))
 have HT5' := Aside0.mk (Kd.C_alloc HT5.out (.cells #[.int .u8 97, .int .u8 97, .int .u8 32, .int .u8 98, .int .u8 98, .int .u8 32, .int .u8 99, .int .u8 99] 5 (8, 9)))
 have HC5 : Aside0 (Kd.C (Kd.int .u8) (w5.alloc (.cells #[.int .u8 97, .int .u8 97, .int .u8 32, .int .u8 98, .int .u8 98, .int .u8 32, .int .u8 99, .int .u8 99] 5 (8, 9))) (some ⟨w5.heap.size, 0, none⟩) wkW.length wkW) := Aside0.mk (C_const (t := 5) (fr := (8, 9)) wkW _ rfl (World.alloc_heap_new w5 _) (by decide))
 refine (words_Wrap.calls 30 _ 8 wkW 4 [3, 6] 0 _ HC5.out (Nat.le_refl _) (laid_below HL.out HB5'.out) wk_wrap).mono ?_
 rintro e w6 ⟨vw, rfl, hv6, hb6⟩
 have HG6 := Aside0.mk (blk_below (blk_alloc HG5.out (.cells #[.int .u8 97, .int .u8 97, .int .u8 32, .int .u8 98, .int .u8 98, .int .u8 32, .int .u8 99, .int .u8 99] 5 (8, 9))) hb6)
 have HB6 := Aside0.mk (below_step HB5'.out hb6)
 have HT6 := Aside0.mk (Kd.C_below HT5'.out hb6)
 obtain ⟨AW, cW, rfl⟩ := Kd.R_slice hv6
 have HV6 := Aside0.mk (Kd.R_reads' hv6)
 clear hb6 HG5 HB5 HT5 HB5' HT5' HC5 hv6
 have c60 := blk_cell HG6.out 0
 have c61 := blk_cell HG6.out 1
 go_wp2_with fail
 refine (words_All.calls 30 _ 11 wkT wkH _ HT6.out (Nat.le_refl _) (laid_below HL.out HB6.out) wk_all).mono ?_
 rintro e w7 ⟨va, rfl, hv7, hb7⟩
 obtain ⟨AA, cA, rfl⟩ := Kd.R_slice hv7
 have HV7 := Aside0.mk (Kd.R_reads' hv7)
 have HB7 := Aside0.mk (below_step HB6.out hb7)
 have HW7 := Aside0.mk (Kd.C_below HV6.out.2.2 hb7)
 clear hb7 hv7 c60 c61 HG6 HB6 HT6
 go_wp2_with fail
 have hH := R_wkH w7 w7 (Below.refl _ _)
 refine (galleyref22_SameHits.calls 30 AA cA wkH (some ⟨w7.heap.size, 0, none⟩) 3 wkH true _ (Kd.C_alloc HV7.out.2.2 _) HV7.out.2.1 (Kd.R_reads' hH).2.2 (Kd.R_reads' hH).2.1 wk_same).mono ?_
 rintro e w8 ⟨rfl, ⟨n8, rfl⟩⟩
 go_wp2_with fail
 obtain ⟨W8, hW8⟩ : ∃ W8, ((w7.alloc (.cells #[.int .i64 0, .int .i64 2, .int .i64 3, .int .i64 6, .int .i64 8, .int .i64 11] 44)).drewN n8) = W8 := ⟨_, rfl⟩
 have HB8 := Aside0.mk (show Below w.heap.size w W8 by rw [← hW8]; exact pw_below_drewN (below_alloc HB7.out _) _)
 have HW8 := Aside0.mk (show Kd.C (Kd.int .i64) W8 AW [3, 6].length [3, 6] by rw [← hW8]; exact Kd.C_drewN (Kd.C_alloc HW7.out _) _)
 have hs8 : W8.heap.size = w7.heap.size + 1 := by rw [← hW8]; simp
 rw [hW8]
 clear hW8
 have HI8 : Aside0 (Kd.C (Kd.int .i64) (W8.alloc (.cells #[.int .i64 3, .int .i64 6] 3)) (some ⟨w7.heap.size + 1, 0, none⟩) [3, 6].length [3, 6]) := Aside0.mk (C_const (t := 3) (fr := (0, 0)) [3, 6] _ rfl (by rw [← hs8]; exact World.alloc_heap_new W8 _) (by decide))
 refine (galleyref01_SameInts.calls 30 AW cW [3, 6] (some ⟨w7.heap.size + 1, 0, none⟩) 2 [3, 6] true _ (Kd.C_alloc HW8.out _) HV6.out.2.1 HI8.out (Nat.le_refl _) wk_ints).mono ?_
 rintro e w9 ⟨rfl, ⟨n9, rfl⟩⟩
 have HB9 := Aside0.mk (pw_below_drewN (below_alloc HB8.out (.cells #[.int .i64 3, .int .i64 6] 3)) n9)
 go_wp2_with fail
 refine (words_Kind.calls 3 95 1 true 3 _ wk_kind).mono ?_
 rintro e wa ⟨rfl, hba⟩
 go_wp2
 go_ret
 exact ⟨rfl, below_step HB9.out hba⟩
theorem galleylaw22_wakes.calls (r : Bool) (w : World) (hL : LaidBad w) (h : galleylaw22_wakes.f = some r) :
  Calls Tryd.prog 19 #[] w fun e w' => e = .returned (.bool r) ∧ Below w.heap.size w w' := by
 cases h
 exact galleylaw22_wakes.walk w hL

end Go.Proofs.YtijbkiajhicooabDoor.PW

namespace Go.Proofs.YtijbkiajhicooabDoor.PW
open Go.RowKit Go.Proofs.YtijbkiajhicooabDoorW.PrintWords Go.Proofs.YtijbkiajhicooabDoorW.PrintLast Go.Proofs.YtijbkiajhicooabDoorW.PrintMore
attribute [local go_sem] max2_int min2_int max_two min_two max_three min_three max_four min_four   -- for this text's walks alone
set_option linter.unusedVariables false
set_option linter.unusedSimpArgs false

def galleylaw22_own.f (l0 : List Int) : Option (List Int) := (some (([] : List Int) : List Int)).bind fun y205 => (if y205.length + l0.length < 140737488355328 then (some (y205 ++ l0)) else (none))
set_option maxHeartbeats 8000000 in
set_option maxRecDepth 100000 in
theorem galleylaw22_own.calls (A0 : Option Addr) (c0 : Nat) (l0 : List Int) (r : List Int) (w : World) (hr0 : Kd.C (Kd.int .u8) w A0 l0.length l0) (hc0 : l0.length ≤ c0) (h : galleylaw22_own.f l0 = some r) :
  Calls Tryd.prog 21 #[.slice A0 l0.length c0] w fun e w' => ∃ v0_ : Value, e = .returned (v0_) ∧ Kd.R (Kd.int .u8) 5 w' w.heap.size (fun _ => True) v0_ r ∧ Below w.heap.size w w' := by
 have HR0 := Aside0.mk hr0
 have HC0 := Aside0.mk hc0
 clear hr0 hc0
 have HB := Aside0.mk (Below.refl w.heap.size w)
 have H : ((some (([] : List Int) : List Int)).bind fun y205 => (if y205.length + l0.length < 140737488355328 then (some (y205 ++ l0)) else (none))) = some r := h
 clear h
 obtain ⟨y205, hy205⟩ : ∃ y_ : List Int, y_ = (([] : List Int)) := ⟨_, rfl⟩
 replace H : (if y205.length + l0.length < 140737488355328 then (some (y205 ++ l0)) else (none)) = some r := by first | (rw [hy205]; with_reducible exact H) | (have H2_ := (Option.bind_some _ _).symm.trans H; rw [hy205]; with_reducible exact H2_) | (have H2_ := (Option.bind_some _ _).symm.trans H; with_reducible exact H2_) | with_reducible exact H | (rw [hy205]; exact H) | exact H
 have Ny205 := Aside0.mk hy205
 clear hy205
 by_cases c2 : y205.length + l0.length < 140737488355328
 ·rw [if_pos c2] at H
  have LMc2 := Aside0.mk c2
  clear c2
  obtain ⟨y208, hy208⟩ : ∃ y_ : List Int, y_ = (y205 ++ l0) := ⟨_, rfl⟩
  replace H : (some y208) = some r := by first | (rw [hy208]; with_reducible exact H) | (have H2_ := (Option.bind_some _ _).symm.trans H; rw [hy208]; with_reducible exact H2_) | (have H2_ := (Option.bind_some _ _).symm.trans H; with_reducible exact H2_) | with_reducible exact H | (rw [hy208]; exact H) | exact H
  have Ny208 := Aside0.mk hy208
  clear hy208
  obtain rfl := Option.some.inj H
  go_enter Tryd.func21, Tryd.ntmps21
  go_wp2_with (first | ((with_reducible refine gate_dst (N := 3) rfl ?_); refine Kd.R_lit (Kd.int .u8) _ 5 ?hg (N := 3) ?hd (xs := ([] : List Int)) (inner := []) (ok := fun _ => True) (okp := fun _ => True) ?hr ?hp (fun _ hk => hk) trivial (Below.refl _ _) (Nat.le_refl _) (by simp) ?_; (case hd => rfl); (case hg => rfl); (case hr => first | (go_simp; done) | (go_simp; rfl)); (case hp => exact (Reps.none _ _)); intro v206 w3 ho4 hb hg_ hnew_; clear hg_ hnew_; (first | rw [← Ny205.out] at ho4 | (simp only [Int.reduceToNat] at ho4; rw [← Ny205.out] at ho4)); have n0_ := Aside0.mk (Kd.R_lower ho4 (below_size (by repeat (first | (with_reducible first | exact HB.out | apply below_alloc | apply pw_below_drewN | apply below_drew1) | exact HB.out)))); have n1_ := Aside0.mk (below_step (by repeat (first | (with_reducible first | exact HB.out | apply below_alloc | apply pw_below_drewN | apply below_drew1) | exact HB.out)) hb); clear HB; have HO207 := n0_; have HB := n1_; clear n0_ n1_; clear hb ho4) | ((with_reducible refine gate_builtin (b := .append) (xs := #[.tmp 3, .tmp 4]) rfl ?_); at_builtin; refine Kd.R_append_rows (Kd.int .u8) (w0 := w) w.heap.size rfl (.tmp 3) (.tmp 4) 22 5 (.int .u8 0) 1 rfl Tryd.underlying22 info5 rfl (by decide) (by omega) v206 y205 l0 _ _ _ (fun _ => True) (fun _ => False) rfl rfl ?aO ?aR (fun _ _ h => h) (fun _ h => h.elim) ?aF ?aB ?aS ?aL ?_; (case aR => repeat (first | exact (Kd.C_below HR0.out HB.out) | (with_reducible refine Kd.C_alloc ?_ _) | (with_reducible refine Kd.C_drewN ?_ _) | (with_reducible refine Kd.C_drew ?_))); (case aB => exact (by repeat (first | (with_reducible first | exact HB.out | apply below_alloc | apply pw_below_drewN | apply below_drew1) | exact HB.out))); (case aF => exact (fun _ _ => trivial)); (case aO => exact (by (with_reducible repeat (first | apply Kd.R_alloc | apply Kd.R_drewN | apply Kd.R_drew)); exact HO207.out)); (case aS => exact (below_size (by repeat (first | (with_reducible first | exact HB.out | apply below_alloc | apply pw_below_drewN | apply below_drew1) | exact HB.out)))); (case aL => have := LMc2.out; omega); intro v209 w5 ho hb hg hat; rw [← Ny208.out] at ho; have n0_ := Aside0.mk (hb); have n1_ := Aside0.mk (ho); clear HB; clear HO207; have HB := n0_; have HO210 := n1_; clear n0_ n1_; clear ho hb hg hat))
  go_ret
  exact ⟨_, by first | rfl | (simp [errW_none, errW_some] <;> rfl) | (simp [*, errW_none, errW_some] <;> rfl), by (with_reducible repeat (first | apply Kd.R_alloc | apply Kd.R_drewN | apply Kd.R_drew)); exact HO210.out, by repeat (first | (with_reducible first | exact HB.out | apply below_alloc | apply pw_below_drewN | apply below_drew1) | exact HB.out)⟩
 ·rw [if_neg c2] at H
  exact absurd H (by simp)

end Go.Proofs.YtijbkiajhicooabDoor.PW

namespace Go.Proofs.YtijbkiajhicooabDoor.PW
open Go.RowKit Go.Proofs.YtijbkiajhicooabDoorW.PrintWords Go.Proofs.YtijbkiajhicooabDoorW.PrintLast Go.Proofs.YtijbkiajhicooabDoorW.PrintMore
attribute [local go_sem] max2_int min2_int max_two min_two max_three min_three max_four min_four   -- for this text's walks alone
set_option linter.unusedVariables false
set_option linter.unusedSimpArgs false

def step_At.j0 : Nat → List Int → Int → Bool → Option (Int × Int × Bool × Int)
 | 0, _, _, _ => none
 | k + 1, x0, x1, x6 => if x6 = true then (some (0, 0, false, 2)) else ((step_inside.f k x0 x1).bind fun t212 => (if t212 > 0 then (some (0, 0, false, 4)) else ((step_at.f x0 x1).bind fun bt213 => (some (bt213.1, bt213.2.1, bt213.2.2, 0)))))
def step_At.f (k : Nat) (l0 : List Int) (a1 : Int) : Option (Int × Int × Bool × Int) := if a1 < 0 then (step_At.j0 k l0 a1 true) else (step_At.j0 k l0 a1 (decide (a1 ≥ (l0.length : Int))))
set_option maxHeartbeats 8000000 in
set_option maxRecDepth 100000 in
theorem step_At.calls (k : Nat) (A0 : Option Addr) (c0 : Nat) (l0 : List Int) (a1 : Int) (r1 : Int) (r2 : Int) (r3 : Bool) (r4 : Int) (w : World) (hr0 : Kd.C (Kd.int .u8) w A0 l0.length l0) (hc0 : l0.length ≤ c0) (hL : LaidBad w) (h : step_At.f k l0 a1 = some (r1, r2, r3, r4)) :
  Calls Tryd.prog 22 #[.slice A0 l0.length c0, .int .i64 a1] w fun e w' => e = .returned (.tuple #[.agg #[.int .i32 r1, .int .i64 r2, .bool r3], .int .i64 r4]) ∧ Below w.heap.size w w' := by
 have hu50 := Tryd.underlying50
 have HR0 := Aside0.mk hr0
 have HC0 := Aside0.mk hc0
 clear hr0 hc0
 have HB := Aside0.mk (Below.refl w.heap.size w)
 have HLB := Aside0.mk hL
 clear hL
 have H : (if a1 < 0 then (step_At.j0 k l0 a1 true) else (step_At.j0 k l0 a1 (decide (a1 ≥ (l0.length : Int))))) = some (r1, r2, r3, r4) := h
 clear h
 have HC3 := Aside0.mk H
 clear H
 go_enter Tryd.func22, Tryd.ntmps22
 go_upto_region 1 with (first | ((with_reducible refine gate_dst (N := 4) rfl ?_); (try (refine gate_guard (by rfl) ?_; dsimp only)); refine box_event ?hg (N := 4) ?hd (cs := #[.int .i32 0, .int .i64 0, .bool false]) (t := 50) ?hr ?_; (case hd => rfl); (case hg => rfl); (case hr => first | (go_simp; done) | (go_simp; rfl)); intro gb211 hg w4 hbox hb; have n0_ := Aside0.mk (below_step (by repeat (first | (with_reducible first | exact HB.out | apply below_alloc | apply pw_below_drewN | apply below_drew1) | exact HB.out)) hb); have n1_ := Aside0.mk (hbox); have n2_ := Aside0.mk ((by rw [hg]; exact (below_size (by repeat (first | (with_reducible first | exact HB.out | apply below_alloc | apply pw_below_drewN | apply below_drew1) | exact HB.out))) : w.heap.size ≤ gb211)); have n3_ := Aside0.mk ((by rw [hg]; exact (below_size (by repeat (first | (with_reducible first | exact HB.out | apply below_alloc | apply pw_below_drewN | apply below_drew1) | exact HB.out))) : w.heap.size ≤ gb211)); clear HB; have HB := n0_; have BK211 := n1_; have GW211 := n2_; have GE211 := n3_; clear n0_ n1_ n2_ n3_; clear hb hbox hg))
 (try simp only [Act.put, List.setIfInBounds_toArray, List.set_cons_zero, List.set_cons_succ])
 go_cut [6] (fun v6 wc => ∃ (kq : Nat) (x6_2 : Bool), v6 = .bool x6_2 ∧ Aside0 (step_At.j0 kq l0 a1 x6_2 = some (r1, r2, r3, r4)) ∧ Aside0 (kq ≤ k) ∧ Aside0 (wc.heap[gb211]? = some (.cells #[.int .i32 0, .int .i64 0, .bool false] 50 (0, 0))) ∧ Aside0 (Below w.heap.size w wc))
 case first =>
  have H := HC3.out
  clear HC3
  by_cases c5 : a1 < 0
  ·rw [if_pos c5] at H
   have c5b0 : decide (a1 < 0) = true := decide_eq_true c5
   clear c5
   (first | rw [c5b0] | (simp only [i64_w, i32_w]; rw [c5b0]) | skip)
   have H' := Aside0.mk H
   clear H
   go_wp2
   go_meet
   case rel => exact ⟨_, (true), (by first | rfl | (simp; done) | (simp [*]; done)), H', ⟨by first | omega | exact Nat.le_refl _⟩, ⟨by (with_reducible repeat (first | refine blk_drewN ?_ _ | refine blk_drew ?_ | refine blk_alloc ?_ _)); exact BK211.out⟩, ⟨by repeat (first | (with_reducible first | exact HB.out | apply below_alloc | apply pw_below_drewN | apply below_drew1 | refine below_set ?_ GE211.out) | exact HB.out)⟩⟩
  ·rw [if_neg c5] at H
   have c5b0 : decide (a1 < 0) = false := decide_eq_false c5
   clear c5
   (first | rw [c5b0] | (simp only [i64_w, i32_w]; rw [c5b0]) | skip)
   have H' := Aside0.mk H
   clear H
   go_wp2
   go_meet
   case rel => exact ⟨_, (decide (a1 ≥ (l0.length : Int))), (by first | rfl | (simp; done) | (simp [*]; done)), H', ⟨by first | omega | exact Nat.le_refl _⟩, ⟨by (with_reducible repeat (first | refine blk_drewN ?_ _ | refine blk_drew ?_ | refine blk_alloc ?_ _)); exact BK211.out⟩, ⟨by repeat (first | (with_reducible first | exact HB.out | apply below_alloc | apply pw_below_drewN | apply below_drew1 | refine below_set ?_ GE211.out) | exact HB.out)⟩⟩
 case rest =>
  clear HC3
  try clear c2
  try clear p2
  try clear c5
  try clear c5b0
  obtain ⟨kq, x6_2, rfl, HA, HJ2, BK211, HB⟩ := hcut
  cases kq with
  | zero => exact absurd HA.out (by simp [step_At.j0])
  | succ kj2 =>
   have H := HA.out
   clear HA
   simp only [step_At.j0] at H
   by_cases c6 : x6_2 = true
   ·subst c6
    have H1 : (some (0, 0, false, 2)) = some (r1, r2, r3, r4) := by rw [if_pos rfl] at H; exact H
    clear H
    have H := H1
    clear H1
    simp only [Option.some.injEq, Prod.mk.injEq] at H
    obtain ⟨rfl, rfl, rfl, rfl⟩ := H
    have hcz7_0 : wc.cell? ⟨gb211, 0, none⟩ = some (.int .i32 0) := (blk_cell BK211.out 0).trans rfl
    have hcz7_1 : wc.cell? ⟨gb211, 1, none⟩ = some (.int .i64 0) := (blk_cell BK211.out 1).trans rfl
    have hcz7_2 : wc.cell? ⟨gb211, 2, none⟩ = some (.bool false) := (blk_cell BK211.out 2).trans rfl
    have hfz7_0 := blk_frozen BK211.out 0
    have hfz7_1 := blk_frozen BK211.out 1
    have hfz7_2 := blk_frozen BK211.out 2
    go_wp2
    refine bodyPost_ret (results_ct rfl _ _ gb211 50 #[.int .i32 0, .int .i64 0, .bool false] (0, 0) _ rfl (by (with_reducible repeat (first | refine blk_drewN ?_ _ | refine blk_drew ?_ | refine blk_alloc ?_ _)); refine blk_put (cs := #[.int .i32 0, .int .i64 0, .bool false]) ?_ 2 _ rfl; (with_reducible repeat (first | refine blk_drewN ?_ _ | refine blk_drew ?_ | refine blk_alloc ?_ _)); refine blk_put (cs := #[.int .i32 0, .int .i64 0, .bool false]) ?_ 1 _ rfl; (with_reducible repeat (first | refine blk_drewN ?_ _ | refine blk_drew ?_ | refine blk_alloc ?_ _)); refine blk_put (cs := #[.int .i32 0, .int .i64 0, .bool false]) ?_ 0 _ rfl; (with_reducible repeat (first | refine blk_drewN ?_ _ | refine blk_drew ?_ | refine blk_alloc ?_ _)); exact BK211.out) Tryd.underlying50 rfl (by kernel_rfl)) rfl ?_
    exact ⟨by first | rfl | (simp [errW_none, errW_some] <;> rfl) | (simp [*, errW_none, errW_some] <;> rfl), by repeat (first | (with_reducible first | exact HB.out | apply below_alloc | apply pw_below_drewN | apply below_drew1 | refine below_set ?_ GE211.out) | exact HB.out)⟩
   ·replace c6 := Bool.eq_false_iff.mpr c6
    subst c6
    have H1 : ((step_inside.f kj2 l0 a1).bind fun t212 => (if t212 > 0 then (some (0, 0, false, 4)) else ((step_at.f l0 a1).bind fun bt213 => (some (bt213.1, bt213.2.1, bt213.2.2, 0))))) = some (r1, r2, r3, r4) := by rw [if_neg (show ¬ (false = true) by decide)] at H; exact H
    clear H
    have H := H1
    clear H1
    replace H := Option.bind_eq_some_iff.mp H
    obtain ⟨t212, A80, H⟩ := H
    replace H : (if t212 > 0 then (some (0, 0, false, 4)) else ((step_at.f l0 a1).bind fun bt213 => (some (bt213.1, bt213.2.1, bt213.2.2, 0)))) = some (r1, r2, r3, r4) := H
    have A8 := Aside0.mk A80
    clear A80
    by_cases c9 : t212 > 0
    ·rw [if_pos c9] at H
     have c9b0 : decide (0 < t212) = true := decide_eq_true c9
     clear c9
     simp only [Option.some.injEq, Prod.mk.injEq] at H
     obtain ⟨rfl, rfl, rfl, rfl⟩ := H
     go_wp2_with (first | ((with_reducible refine gate_callee (f := 53) rfl ?_); refine goesL_ (some 19) rfl rfl Tryd.func53 (by kernel_rfl) rfl #[.slice A0 l0.length c0, .int .i64 a1] rfl (by (try simp only [List.map_toArray, List.map_cons, List.map_nil]); first | done | rfl | (simp only [List.length_drop, List.length_take]; rfl)) ?_; (with_reducible refine (step_inside.calls kj2 _ _ l0 a1 t212 _ ?side1 ?side2 ?side3 A8.out).mono ?_); (case side1 => repeat (first | exact (Kd.C_below HR0.out HB.out) | (with_reducible refine Kd.C_alloc ?_ _) | (with_reducible refine Kd.C_drewN ?_ _) | (with_reducible refine Kd.C_drew ?_))); (case side2 => exact HC0.out); (case side3 => exact laid_below HLB.out (by repeat (first | (with_reducible first | exact HB.out | apply below_alloc | apply pw_below_drewN | apply below_drew1 | refine below_set ?_ GE211.out) | exact HB.out))); rintro e w10 ⟨rfl, hb⟩; refine ⟨_, rfl, ?_⟩; have n0_ := Aside0.mk (blk_below (g := gb211) (o := .cells #[.int .i32 0, .int .i64 0, .bool false] 50 (0, 0)) (by (with_reducible repeat (first | refine blk_drewN ?_ _ | refine blk_drew ?_ | refine blk_alloc ?_ _)); exact BK211.out) hb); have n1_ := Aside0.mk (below_step (by repeat (first | (with_reducible first | exact HB.out | apply below_alloc | apply pw_below_drewN | apply below_drew1 | refine below_set ?_ GE211.out) | exact HB.out)) hb); clear BK211; clear HB; have BK211 := n0_; have HB := n1_; clear n0_ n1_; (try clear hb); (try clear hb2); (try clear hk); (try clear hi); have hcz11_0 : w10.cell? ⟨gb211, 0, none⟩ = some (.int .i32 0) := (blk_cell BK211.out 0).trans rfl; have hcz11_1 : w10.cell? ⟨gb211, 1, none⟩ = some (.int .i64 0) := (blk_cell BK211.out 1).trans rfl; have hcz11_2 : w10.cell? ⟨gb211, 2, none⟩ = some (.bool false) := (blk_cell BK211.out 2).trans rfl; have hfz11_0 := blk_frozen BK211.out 0; have hfz11_1 := blk_frozen BK211.out 1; have hfz11_2 := blk_frozen BK211.out 2))
     refine bodyPost_ret (results_ct rfl _ _ gb211 50 #[.int .i32 0, .int .i64 0, .bool false] (0, 0) _ rfl (by (with_reducible repeat (first | refine blk_drewN ?_ _ | refine blk_drew ?_ | refine blk_alloc ?_ _)); refine blk_put (cs := #[.int .i32 0, .int .i64 0, .bool false]) ?_ 2 _ rfl; (with_reducible repeat (first | refine blk_drewN ?_ _ | refine blk_drew ?_ | refine blk_alloc ?_ _)); refine blk_put (cs := #[.int .i32 0, .int .i64 0, .bool false]) ?_ 1 _ rfl; (with_reducible repeat (first | refine blk_drewN ?_ _ | refine blk_drew ?_ | refine blk_alloc ?_ _)); refine blk_put (cs := #[.int .i32 0, .int .i64 0, .bool false]) ?_ 0 _ rfl; (with_reducible repeat (first | refine blk_drewN ?_ _ | refine blk_drew ?_ | refine blk_alloc ?_ _)); exact BK211.out) Tryd.underlying50 rfl (by kernel_rfl)) rfl ?_
     exact ⟨by first | rfl | (simp [errW_none, errW_some] <;> rfl) | (simp [*, errW_none, errW_some] <;> rfl), by repeat (first | (with_reducible first | exact HB.out | apply below_alloc | apply pw_below_drewN | apply below_drew1 | refine below_set ?_ GE211.out) | exact HB.out)⟩
    ·rw [if_neg c9] at H
     have c9b0 : decide (0 < t212) = false := decide_eq_false c9
     clear c9
     replace H := Option.bind_eq_some_iff.mp H
     obtain ⟨⟨t213, t214, t215⟩, A120, H⟩ := H
     replace H : (some (t213, t214, t215, 0)) = some (r1, r2, r3, r4) := H
     have A12 := Aside0.mk A120
     clear A120
     simp only [Option.some.injEq, Prod.mk.injEq] at H
     obtain ⟨rfl, rfl, rfl, rfl⟩ := H
     go_wp2_with (first | ((with_reducible refine gate_callee (f := 53) rfl ?_); refine goesL_ (some 19) rfl rfl Tryd.func53 (by kernel_rfl) rfl #[.slice A0 l0.length c0, .int .i64 a1] rfl (by (try simp only [List.map_toArray, List.map_cons, List.map_nil]); first | done | rfl | (simp only [List.length_drop, List.length_take]; rfl)) ?_; (with_reducible refine (step_inside.calls kj2 _ _ l0 a1 t212 _ ?side1 ?side2 ?side3 A8.out).mono ?_); (case side1 => repeat (first | exact (Kd.C_below HR0.out HB.out) | (with_reducible refine Kd.C_alloc ?_ _) | (with_reducible refine Kd.C_drewN ?_ _) | (with_reducible refine Kd.C_drew ?_))); (case side2 => exact HC0.out); (case side3 => exact laid_below HLB.out (by repeat (first | (with_reducible first | exact HB.out | apply below_alloc | apply pw_below_drewN | apply below_drew1 | refine below_set ?_ GE211.out) | exact HB.out))); rintro e w13 ⟨rfl, hb⟩; refine ⟨_, rfl, ?_⟩; have n0_ := Aside0.mk (blk_below (g := gb211) (o := .cells #[.int .i32 0, .int .i64 0, .bool false] 50 (0, 0)) (by (with_reducible repeat (first | refine blk_drewN ?_ _ | refine blk_drew ?_ | refine blk_alloc ?_ _)); exact BK211.out) hb); have n1_ := Aside0.mk (below_step (by repeat (first | (with_reducible first | exact HB.out | apply below_alloc | apply pw_below_drewN | apply below_drew1 | refine below_set ?_ GE211.out) | exact HB.out)) hb); clear BK211; clear HB; have BK211 := n0_; have HB := n1_; clear n0_ n1_; (try clear hb); (try clear hb2); (try clear hk); (try clear hi)) | ((with_reducible refine gate_callee (f := 54) rfl ?_); refine goesL_ (some 24) rfl rfl Tryd.func54 (by kernel_rfl) rfl #[.slice A0 l0.length c0, .int .i64 a1] rfl (by (try simp only [List.map_toArray, List.map_cons, List.map_nil]); first | done | rfl | (simp only [List.length_drop, List.length_take]; rfl)) ?_; (with_reducible refine (step_at.calls _ _ l0 a1 t213 t214 t215 _ ?side1 ?side2 ?side3 A12.out).mono ?_); (case side1 => repeat (first | exact (Kd.C_below HR0.out HB.out) | (with_reducible refine Kd.C_alloc ?_ _) | (with_reducible refine Kd.C_drewN ?_ _) | (with_reducible refine Kd.C_drew ?_))); (case side2 => exact HC0.out); (case side3 => exact laid_below HLB.out (by repeat (first | (with_reducible first | exact HB.out | apply below_alloc | apply pw_below_drewN | apply below_drew1 | refine below_set ?_ GE211.out) | exact HB.out))); rintro e w14 ⟨rfl, hb⟩; refine ⟨_, rfl, ?_⟩; have n0_ := Aside0.mk (blk_below (g := gb211) (o := .cells #[.int .i32 0, .int .i64 0, .bool false] 50 (0, 0)) (by (with_reducible repeat (first | refine blk_drewN ?_ _ | refine blk_drew ?_ | refine blk_alloc ?_ _)); exact BK211.out) hb); have n1_ := Aside0.mk (below_step (by repeat (first | (with_reducible first | exact HB.out | apply below_alloc | apply pw_below_drewN | apply below_drew1 | refine below_set ?_ GE211.out) | exact HB.out)) hb); clear BK211; clear HB; have BK211 := n0_; have HB := n1_; clear n0_ n1_; (try clear hb); (try clear hb2); (try clear hk); (try clear hi); have hcz15_0 : w14.cell? ⟨gb211, 0, none⟩ = some (.int .i32 0) := (blk_cell BK211.out 0).trans rfl; have hcz15_1 : w14.cell? ⟨gb211, 1, none⟩ = some (.int .i64 0) := (blk_cell BK211.out 1).trans rfl; have hcz15_2 : w14.cell? ⟨gb211, 2, none⟩ = some (.bool false) := (blk_cell BK211.out 2).trans rfl; have hfz15_0 := blk_frozen BK211.out 0; have hfz15_1 := blk_frozen BK211.out 1; have hfz15_2 := blk_frozen BK211.out 2))
     refine bodyPost_ret (results_ct rfl _ _ gb211 50 #[.int .i32 t213, .int .i64 t214, .bool t215] (0, 0) _ rfl (by (with_reducible repeat (first | refine blk_drewN ?_ _ | refine blk_drew ?_ | refine blk_alloc ?_ _)); refine blk_put (cs := #[.int .i32 t213, .int .i64 t214, .bool false]) ?_ 2 _ rfl; (with_reducible repeat (first | refine blk_drewN ?_ _ | refine blk_drew ?_ | refine blk_alloc ?_ _)); refine blk_put (cs := #[.int .i32 t213, .int .i64 0, .bool false]) ?_ 1 _ rfl; (with_reducible repeat (first | refine blk_drewN ?_ _ | refine blk_drew ?_ | refine blk_alloc ?_ _)); refine blk_put (cs := #[.int .i32 0, .int .i64 0, .bool false]) ?_ 0 _ rfl; (with_reducible repeat (first | refine blk_drewN ?_ _ | refine blk_drew ?_ | refine blk_alloc ?_ _)); exact BK211.out) Tryd.underlying50 rfl (by kernel_rfl)) rfl ?_
     exact ⟨by first | rfl | (simp [errW_none, errW_some] <;> rfl) | (simp [*, errW_none, errW_some] <;> rfl), by repeat (first | (with_reducible first | exact HB.out | apply below_alloc | apply pw_below_drewN | apply below_drew1 | refine below_set ?_ GE211.out) | exact HB.out)⟩

end Go.Proofs.YtijbkiajhicooabDoor.PW

