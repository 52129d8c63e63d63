-- Written by merge.py, a program of this session's: PWx56 PWx57 PureDecode PureEdges PureLines PureSteps PureOf PureAll PureKind PureOf22 PureRunsT PureRuns22 PureSlice
import Derived.Test.YtijbkiajhicooaaDoorWordsWrapsM1
import Derived.Test.YtijbkiajhicooaaDoorWordsWrapsM4
import Derived.Test.YtijbkiajhicooaaDoorWordsWrapsM2
import Derived.Test.YtijbkiajhicooaaDoorWordsWrapsM3
import Derived.Lib.Bytes
namespace Go.Proofs.YtijbkiajhicooaaDoor.PW
open Go.RowKit Go.Proofs.YtijbkiajhicooaaDoorW.PrintWords Go.Proofs.YtijbkiajhicooaaDoorW.PrintLast Go.Proofs.YtijbkiajhicooaaDoorW.PrintMore
attribute [local go_sem] max2_int min2_int max_two min_two max_three min_three max_four min_four   -- for this text's walks alone
set_option linter.unusedVariables false
set_option linter.unusedSimpArgs false

mutual
def galleyref22_Wrap.j0 : Nat → List Int → Int → Bool → Option (List Int × Int)
 | 0, _, _, _ => none
 | k + 1, x0, x1, x17 => if x17 = true then (some (([] : List Int), 2)) else ((galleyref22_Of.f k x0).bind fun bt367 => (galleyref22_Wrap.l0 k x1 (bt367.2.length : Int) ([] : List Int) 0 bt367.1 bt367.2))
def galleyref22_Wrap.l0 : Nat → Int → Int → List Int → Int → List Int → List Int → Option (List Int × Int)
 | 0, _, _, _, _, _, _ => none
 | k + 1, x1, x7, x8, x9, x374000, x374001 => if x9 < x7 then (galleyref22_Wrap.l1 k x1 x7 x8 x9 x9 x374000 x374001) else (some (x8, 0))
def galleyref22_Wrap.j3 : Nat → Int → Int → List Int → Int → Int → List Int → List Int → Option (List Int × Int)
 | 0, _, _, _, _, _, _, _ => none
 | k + 1, x1, x7, x8, x9, x10, x374000, x374001 => galleyref22_Wrap.l2 k x1 x7 x8 x9 x10 x374000 x374001
def galleyref22_Wrap.l2 : Nat → Int → Int → List Int → Int → Int → List Int → List Int → Option (List Int × Int)
 | 0, _, _, _, _, _, _, _ => none
 | k + 1, x1, x7, x8, x9, x10, x374000, x374001 => if (wrap64 (x10 - x9)) > x1 then (galleyref22_Wrap.l3 k x1 x7 x8 x9 x10 (wrap64 (x9 + x1)) x374000 x374001) else (galleyref22_Wrap.l0 k x1 x7 x8 (wrap64 (x10 + 1)) x374000 x374001)
def galleyref22_Wrap.l3 : Nat → Int → Int → List Int → Int → Int → Int → List Int → List Int → Option (List Int × Int)
 | 0, _, _, _, _, _, _, _, _ => none
 | k + 1, x1, x7, x8, x9, x10, x11, x374000, x374001 => if x11 > x9 then (if 0 ≤ (wrap64 (x11 - 1)) then (if (wrap64 (x11 - 1)) < (x374001.length : Int) then (if (rd x374001 (wrap64 (x11 - 1))) = 1 then (if x11 = x9 then (if 0 ≤ (wrap64 (x9 + x1)) then (if (wrap64 (x9 + x1)) < (x374000.length : Int) then (if x8.length < 17592186044416 then (galleyref22_Wrap.l2 k x1 x7 (x8 ++ [rd x374000 (wrap64 (x9 + x1))]) (wrap64 (x9 + x1)) x10 x374000 x374001) else (none)) else (none)) else (none)) else (if 0 ≤ x11 then (if x11 < (x374000.length : Int) then (if x8.length < 17592186044416 then (galleyref22_Wrap.l2 k x1 x7 (x8 ++ [rd x374000 x11]) x11 x10 x374000 x374001) else (none)) else (none)) else (none))) else (galleyref22_Wrap.l3 k x1 x7 x8 x9 x10 (wrap64 (x11 - 1)) x374000 x374001)) else (none)) else (none)) else (if x11 = x9 then (if 0 ≤ (wrap64 (x9 + x1)) then (if (wrap64 (x9 + x1)) < (x374000.length : Int) then (if x8.length < 17592186044416 then (galleyref22_Wrap.l2 k x1 x7 (x8 ++ [rd x374000 (wrap64 (x9 + x1))]) (wrap64 (x9 + x1)) x10 x374000 x374001) else (none)) else (none)) else (none)) else (if 0 ≤ x11 then (if x11 < (x374000.length : Int) then (if x8.length < 17592186044416 then (galleyref22_Wrap.l2 k x1 x7 (x8 ++ [rd x374000 x11]) x11 x10 x374000 x374001) else (none)) else (none)) else (none)))
def galleyref22_Wrap.l1 : Nat → Int → Int → List Int → Int → Int → List Int → List Int → Option (List Int × Int)
 | 0, _, _, _, _, _, _, _ => none
 | k + 1, x1, x7, x8, x9, x10, x374000, x374001 => if x10 < x7 then (if 0 ≤ x10 then (if x10 < (x374001.length : Int) then (if (rd x374001 x10) = 2 then (galleyref22_Wrap.j3 k x1 x7 x8 x9 x10 x374000 x374001) else (galleyref22_Wrap.l1 k x1 x7 x8 x9 (wrap64 (x10 + 1)) x374000 x374001)) else (none)) else (none)) else (galleyref22_Wrap.j3 k x1 x7 x8 x9 x10 x374000 x374001)
end
def galleyref22_Wrap.f (k : Nat) (l0 : List Int) (a1 : Int) : Option (List Int × Int) := if a1 < 1 then (galleyref22_Wrap.j0 k l0 a1 true) else (galleyref22_Wrap.j0 k l0 a1 (decide (a1 > 65536)))
set_option maxHeartbeats 8000000 in
set_option maxRecDepth 100000 in
theorem galleyref22_Wrap.calls (k : Nat) (A0 : Option Addr) (c0 : Nat) (l0 : List Int) (a1 : Int) (r1 : List Int) (r2 : Int) (w : World) (hr0 : Kd.C (Kd.int .u8) w A0 l0.length l0) (hc0 : l0.length ≤ c0) (h : galleyref22_Wrap.f k l0 a1 = some (r1, r2)) :
  Calls Tryd.prog 37 #[.slice A0 l0.length c0, .int .i64 a1] w fun e w' => ∃ v0_ : Value, e = .returned (.tuple #[v0_, .int .i64 r2]) ∧ Kd.R (Kd.int .i64) 3 w' w.heap.size (fun _ => True) v0_ r1 ∧ Below w.heap.size w w' := by
 have hu96 := Tryd.underlying96
 have HR0 := Aside0.mk hr0
 have HC0 := Aside0.mk hc0
 clear hr0 hc0
 have HB := Aside0.mk (Below.refl w.heap.size w)
 have H : (if a1 < 1 then (galleyref22_Wrap.j0 k l0 a1 true) else (galleyref22_Wrap.j0 k l0 a1 (decide (a1 > 65536)))) = some (r1, r2) := h
 clear h
 have HC3 := Aside0.mk H
 clear H
 go_enter Tryd.func37, Tryd.ntmps37
 go_upto_region 1 with (fail)
 go_cut [17] (fun v17 wc => ∃ (kq : Nat) (x17_2 : Bool), v17 = .bool x17_2 ∧ Aside0 (galleyref22_Wrap.j0 kq l0 a1 x17_2 = some (r1, r2)) ∧ Aside0 (kq ≤ k) ∧ Aside0 (Below w.heap.size w wc))
 case first =>
  have H := HC3.out
  clear HC3
  by_cases c4 : a1 < 1
  ·rw [if_pos c4] at H
   have c4b0 : decide (a1 < 1) = true := decide_eq_true c4
   clear c4
   (first | rw [c4b0] | (simp only [i64_w, i32_w]; rw [c4b0]) | skip)
   have H' := Aside0.mk H
   clear H
   go_wp2
   go_meet
   case rel => exact ⟨_, (true), (by first | rfl | (simp; done) | (simp [*]; done)), H', ⟨by first | omega | exact Nat.le_refl _⟩, ⟨by repeat (first | (with_reducible first | exact HB.out | apply below_alloc | apply pw_below_drewN | apply below_drew1) | exact HB.out)⟩⟩
  ·rw [if_neg c4] at H
   have c4b0 : decide (a1 < 1) = false := decide_eq_false c4
   clear c4
   (first | rw [c4b0] | (simp only [i64_w, i32_w]; rw [c4b0]) | skip)
   have H' := Aside0.mk H
   clear H
   go_wp2
   go_meet
   case rel => exact ⟨_, (decide (a1 > 65536)), (by first | rfl | (simp; done) | (simp [*]; done)), H', ⟨by first | omega | exact Nat.le_refl _⟩, ⟨by repeat (first | (with_reducible first | exact HB.out | apply below_alloc | apply pw_below_drewN | apply below_drew1) | exact HB.out)⟩⟩
 case rest =>
  clear HC3
  try clear p2
  try clear c3
  try clear c4
  try clear c4b0
  obtain ⟨kq, x17_2, rfl, HA, HJ2, HB⟩ := hcut
  cases kq with
  | zero => exact absurd HA.out (by simp [galleyref22_Wrap.j0])
  | succ kj2 =>
   have H := HA.out
   clear HA
   simp only [galleyref22_Wrap.j0] at H
   by_cases c5 : x17_2 = true
   ·subst c5
    have H1 : (some (([] : List Int), 2)) = some (r1, r2) := by rw [if_pos rfl] at H; exact H
    clear H
    have H := H1
    clear H1
    simp only [Option.some.injEq, Prod.mk.injEq] at H
    obtain ⟨rfl, rfl⟩ := H
    go_wp2
    go_ret2
    exact ⟨_, by first | rfl | (simp [errW_none, errW_some] <;> rfl) | (simp [*, errW_none, errW_some] <;> rfl), by first | exact Kd.R_nil _ _ _ _ _ | exact Kd.N_nil _ _ _ _ _ | exact Kd.V_nil _ _ _ _ _ | exact Kd.Q_nil _ _ _ _ _ | exact Kd.S_nil _ _ _ _ _, by repeat (first | (with_reducible first | exact HB.out | apply below_alloc | apply pw_below_drewN | apply below_drew1) | exact HB.out)⟩
   ·replace c5 := Bool.eq_false_iff.mpr c5
    subst c5
    have H1 : ((galleyref22_Of.f kj2 l0).bind fun bt367 => (galleyref22_Wrap.l0 kj2 a1 (bt367.2.length : Int) ([] : List Int) 0 bt367.1 bt367.2)) = some (r1, r2) := by rw [if_neg (show ¬ (false = true) by decide)] at H; exact H
    clear H
    have H := H1
    clear H1
    replace H := Option.bind_eq_some_iff.mp H
    obtain ⟨⟨t367, t370⟩, A60, H⟩ := H
    replace H : (galleyref22_Wrap.l0 kj2 a1 (t370.length : Int) ([] : List Int) 0 t367 t370) = some (r1, r2) := H
    have A6 := Aside0.mk A60
    clear A60
    have H' := Aside0.mk H
    clear H
    go_wp2_with (first | ((with_reducible refine gate_callee (f := 48) rfl ?_); refine goesL_ (some 19) rfl rfl Tryd.func48 (by kernel_rfl) rfl #[.slice A0 l0.length c0] rfl (by (try simp only [List.map_toArray, List.map_cons, List.map_nil]); first | done | rfl | (simp only [List.length_drop, List.length_take]; rfl)) ?_; (with_reducible refine (galleyref22_Of.calls kj2 _ _ l0 t367 t370 _ ?side1 ?side2 A6.out).mono ?_); (case side1 => repeat (first | exact (Kd.C_below HR0.out HB.out) | (with_reducible refine Kd.C_alloc ?_ _) | (with_reducible refine Kd.C_drewN ?_ _) | (with_reducible refine Kd.C_drew ?_))); (case side2 => exact HC0.out); rintro e w7 ⟨v368, v371, rfl, ho0, ho1, hb⟩; refine ⟨_, rfl, ?_⟩; have n0_ := Aside0.mk (Kd.R_lower ho0 (below_size (by repeat (first | (with_reducible first | exact HB.out | apply below_alloc | apply pw_below_drewN | apply below_drew1) | exact HB.out)))); have n1_ := Aside0.mk (Kd.R_lower ho1 (below_size (by repeat (first | (with_reducible first | exact HB.out | apply below_alloc | apply pw_below_drewN | apply below_drew1) | exact HB.out)))); have n2_ := Aside0.mk (below_step (by repeat (first | (with_reducible first | exact HB.out | apply below_alloc | apply pw_below_drewN | apply below_drew1) | exact HB.out)) hb); clear HB; have HO369 := n0_; have HO372 := n1_; have HB := n2_; clear n0_ n1_ n2_; (try clear hb); (try clear hb2); (try clear hk); (try clear hi); (try clear ho0); (try clear ho1)) | ((with_reducible refine gate_dst (N := 6) rfl ?_); refine box_event ?hg (N := 6) ?hd (cs := #[.slice none 0 0, .slice none 0 0]) (t := 96) ?hr ?_; (case hd => rfl); (case hg => rfl); (case hr => first | (go_simp; done) | (go_simp; rfl)); intro gb373 hg w8 hbox hb; have n0_ := Aside0.mk (Kd.R_below (by (with_reducible repeat (first | apply Kd.R_alloc | apply Kd.R_drewN | apply Kd.R_drew)); exact HO369.out) hb); have n1_ := Aside0.mk (Kd.R_below (by (with_reducible repeat (first | apply Kd.R_alloc | apply Kd.R_drewN | apply Kd.R_drew)); exact HO372.out) hb); have n2_ := Aside0.mk (below_step (by repeat (first | (with_reducible first | exact HB.out | apply below_alloc | apply pw_below_drewN | apply below_drew1) | exact HB.out)) hb); have n3_ := Aside0.mk (hbox); have n4_ := Aside0.mk ((by rw [hg]; exact (below_size (by repeat (first | (with_reducible first | exact HB.out | apply below_alloc | apply pw_below_drewN | apply below_drew1) | exact HB.out))) : w.heap.size ≤ gb373)); have n5_ := Aside0.mk ((by rw [hg]; exact (below_size (by repeat (first | (with_reducible first | exact HB.out | apply below_alloc | apply pw_below_drewN | apply below_drew1) | exact HB.out))) : w.heap.size ≤ gb373)); clear HO369; clear HO372; clear HB; have HO369 := n0_; have HO372 := n1_; have HB := n2_; have BK373 := n3_; have GW373 := n4_; have GE373 := n5_; clear n0_ n1_ n2_ n3_ n4_ n5_; clear hb hbox hg; obtain ⟨Ao9, co9, eo9⟩ := Kd.R_slice HO369.out; subst eo9; have hcz10_0 : w8.cell? ⟨gb373, 0, none⟩ = some (.slice none 0 0) := (blk_cell BK373.out 0).trans rfl; have hcz10_1 : w8.cell? ⟨gb373, 1, none⟩ = some (.slice none 0 0) := (blk_cell BK373.out 1).trans rfl; have hfz10_0 := blk_frozen BK373.out 0; have hfz10_1 := blk_frozen BK373.out 1; obtain ⟨Ao11, co11, eo11⟩ := Kd.R_slice HO372.out; subst eo11))
    go_loopg [8, 9] kj2 (fun kq v8 v9 w' => ∃ (x8_2 : List Int) (x9_2 : Int), v9 = .int .i64 x9_2 ∧ Aside0 (galleyref22_Wrap.l0 kq a1 (t370.length : Int) x8_2 x9_2 t367 t370 = some (r1, r2)) ∧ Aside0 (kq ≤ kj2) ∧ Aside0 (Kd.R (Kd.int .i64) 3 w' w.heap.size (fun k_ => some k_ ≠ ((.slice Ao9 t367.length co9) : Value).ownBlock ∧ some k_ ≠ ((.slice Ao11 t370.length co11) : Value).ownBlock) v8 x8_2) ∧ Aside0 (Kd.R (Kd.int .i64) 3 w' w.heap.size (fun k_ => some k_ ≠ (v8 : Value).ownBlock ∧ some k_ ≠ ((.slice Ao11 t370.length co11) : Value).ownBlock) (.slice Ao9 t367.length co9) t367) ∧ Aside0 (Kd.R (Kd.int .i64) 3 w' w.heap.size (fun k_ => some k_ ≠ (v8 : Value).ownBlock ∧ some k_ ≠ ((.slice Ao9 t367.length co9) : Value).ownBlock) (.slice Ao11 t370.length co11) t370) ∧ Aside0 (w'.heap[gb373]? = some (.cells #[(.slice Ao9 t367.length co9), (.slice Ao11 t370.length co11)] 96 (0, 0))) ∧ Aside0 (Below w.heap.size w w'))
    case atStart => exact ⟨(([] : List Int)), (0), (by first | rfl | (simp; done) | (simp [*]; done)), H', ⟨Nat.le_refl _⟩, ⟨by first | exact Kd.R_nil _ _ _ _ _ | exact Kd.N_nil _ _ _ _ _ | exact Kd.V_nil _ _ _ _ _ | exact Kd.Q_nil _ _ _ _ _ | exact Kd.S_nil _ _ _ _ _⟩, ⟨by (with_reducible repeat (first | apply Kd.R_alloc | apply Kd.R_drewN | apply Kd.R_drew)); exact Kd.R_mono (Kd.R_far (p := ⟨gb373, 1, none⟩) (Kd.R_far (p := ⟨gb373, 0, none⟩) (Kd.R_types HO369.out BK373.out (by decide)) (fun _ hk => hk.2) (.slice Ao9 t367.length co9)) (fun _ hk => hk.2) (.slice Ao11 t370.length co11)) (fun _ hk => ⟨(by simp [Value.ownBlock]), hk.1⟩)⟩, ⟨by (with_reducible repeat (first | apply Kd.R_alloc | apply Kd.R_drewN | apply Kd.R_drew)); exact Kd.R_mono (Kd.R_far (p := ⟨gb373, 1, none⟩) (Kd.R_far (p := ⟨gb373, 0, none⟩) (Kd.R_types HO372.out BK373.out (by decide)) (fun _ hk => hk.2) (.slice Ao9 t367.length co9)) (fun _ hk => hk.2) (.slice Ao11 t370.length co11)) (fun _ hk => ⟨(by simp [Value.ownBlock]), hk.1⟩)⟩, ⟨by (with_reducible repeat (first | refine blk_drewN ?_ _ | refine blk_drew ?_ | refine blk_alloc ?_ _)); refine blk_put (cs := #[.slice Ao9 t367.length co9, .slice none 0 0]) ?_ 1 _ rfl; (with_reducible repeat (first | refine blk_drewN ?_ _ | refine blk_drew ?_ | refine blk_alloc ?_ _)); refine blk_put (cs := #[.slice none 0 0, .slice none 0 0]) ?_ 0 _ rfl; (with_reducible repeat (first | refine blk_drewN ?_ _ | refine blk_drew ?_ | refine blk_alloc ?_ _)); exact BK373.out⟩, ⟨by repeat (first | (with_reducible first | exact HB.out | apply below_alloc | apply pw_below_drewN | apply below_drew1 | refine below_set ?_ GE373.out) | exact HB.out)⟩⟩
    case round =>
     clear H'
     try clear p2
     try clear c3
     try clear c4
     try clear c4b0
     try clear c5
     try clear hcz10_0
     try clear hcz10_1
     try clear hfz10_0
     try clear hfz10_1
     try clear p2
     obtain ⟨x8_2, x9_2, rfl, HA, HK2, HO_8, HO_374000, HO_374001, BK373, HB⟩ := hrel
     cases gk with
     | zero => exact absurd HA.out (by simp [galleyref22_Wrap.l0])
     | succ k2 =>
      have H := HA.out
      clear HA
      simp only [galleyref22_Wrap.l0] at H
      by_cases c12 : x9_2 < (t370.length : Int)
      ·rw [if_pos c12] at H
       have c12b0 : decide (x9_2 < (t370.length : Int)) = true := decide_eq_true c12
       clear c12
       have HC13 := Aside0.mk H
       clear H
       go_upto_block 2 with (fail)
       go_cut [10] (fun v10 wc => ∃ (kq : Nat) (x10_12 : Int), v10 = .int .i64 x10_12 ∧ Aside0 (galleyref22_Wrap.j3 kq a1 (t370.length : Int) x8_2 x9_2 x10_12 t367 t370 = some (r1, r2)) ∧ Aside0 (kq ≤ k2) ∧ Aside0 (Kd.R (Kd.int .i64) 3 wc w.heap.size (fun k_ => some k_ ≠ ((.slice Ao9 t367.length co9) : Value).ownBlock ∧ some k_ ≠ ((.slice Ao11 t370.length co11) : Value).ownBlock) u8 x8_2) ∧ Aside0 (Kd.R (Kd.int .i64) 3 wc w.heap.size (fun k_ => some k_ ≠ (u8 : Value).ownBlock ∧ some k_ ≠ ((.slice Ao11 t370.length co11) : Value).ownBlock) (.slice Ao9 t367.length co9) t367) ∧ Aside0 (Kd.R (Kd.int .i64) 3 wc w.heap.size (fun k_ => some k_ ≠ (u8 : Value).ownBlock ∧ some k_ ≠ ((.slice Ao9 t367.length co9) : Value).ownBlock) (.slice Ao11 t370.length co11) t370) ∧ Aside0 (wc.heap[gb373]? = some (.cells #[(.slice Ao9 t367.length co9), (.slice Ao11 t370.length co11)] 96 (0, 0))) ∧ Aside0 (Below w.heap.size w wc))
       case first =>
        have H := HC13.out
        clear HC13
        have H' := Aside0.mk H
        clear H
        go_wp2
        go_loopg [10] k2 (fun kq v10 w' => ∃ (x10_3 : Int), v10 = .int .i64 x10_3 ∧ Aside0 (galleyref22_Wrap.l1 kq a1 (t370.length : Int) x8_2 x9_2 x10_3 t367 t370 = some (r1, r2)) ∧ Aside0 (kq ≤ k2) ∧ Aside0 (Kd.R (Kd.int .i64) 3 w' w.heap.size (fun k_ => some k_ ≠ ((.slice Ao9 t367.length co9) : Value).ownBlock ∧ some k_ ≠ ((.slice Ao11 t370.length co11) : Value).ownBlock) u8 x8_2) ∧ Aside0 (Kd.R (Kd.int .i64) 3 w' w.heap.size (fun k_ => some k_ ≠ (u8 : Value).ownBlock ∧ some k_ ≠ ((.slice Ao11 t370.length co11) : Value).ownBlock) (.slice Ao9 t367.length co9) t367) ∧ Aside0 (Kd.R (Kd.int .i64) 3 w' w.heap.size (fun k_ => some k_ ≠ (u8 : Value).ownBlock ∧ some k_ ≠ ((.slice Ao9 t367.length co9) : Value).ownBlock) (.slice Ao11 t370.length co11) t370) ∧ Aside0 (w'.heap[gb373]? = some (.cells #[(.slice Ao9 t367.length co9), (.slice Ao11 t370.length co11)] 96 (0, 0))) ∧ Aside0 (Below w.heap.size w w'))
        case atStart => exact ⟨(x9_2), (by first | rfl | (simp; done) | (simp [*]; done)), H', ⟨Nat.le_refl _⟩, ⟨by (with_reducible repeat (first | apply Kd.R_alloc | apply Kd.R_drewN | apply Kd.R_drew)); exact HO_8.out⟩, ⟨by (with_reducible repeat (first | apply Kd.R_alloc | apply Kd.R_drewN | apply Kd.R_drew)); exact HO_374000.out⟩, ⟨by (with_reducible repeat (first | apply Kd.R_alloc | apply Kd.R_drewN | apply Kd.R_drew)); exact HO_374001.out⟩, ⟨by (with_reducible repeat (first | refine blk_drewN ?_ _ | refine blk_drew ?_ | refine blk_alloc ?_ _)); exact BK373.out⟩, ⟨by repeat (first | (with_reducible first | exact HB.out | apply below_alloc | apply pw_below_drewN | apply below_drew1 | refine below_set ?_ GE373.out) | exact HB.out)⟩⟩
        case round =>
         clear H'
         try clear c1
         try clear p2
         try clear c3
         try clear c4
         try clear c4b0
         try clear c5
         try clear c12
         try clear c12b0
         try clear hcz10_0
         try clear hcz10_1
         try clear hfz10_0
         try clear hfz10_1
         try clear p2
         obtain ⟨x10_3, rfl, HA, HK3, HO_8, HO_374000, HO_374001, BK373, HB⟩ := hrel
         cases gk with
         | zero => exact absurd HA.out (by simp [galleyref22_Wrap.l1])
         | succ k3 =>
          have H := HA.out
          clear HA
          simp only [galleyref22_Wrap.l1] at H
          by_cases c14 : x10_3 < (t370.length : Int)
          ·rw [if_pos c14] at H
           have c14b0 : decide (x10_3 < (t370.length : Int)) = true := decide_eq_true c14
           clear c14
           (first | rw [c14b0] | (simp only [i64_w, i32_w]; rw [c14b0]) | skip)
           by_cases c15 : 0 ≤ x10_3
           ·rw [if_pos c15] at H
            have c15b0 : decide (0 ≤ x10_3) = true := decide_eq_true c15
            clear c15
            by_cases c16 : x10_3 < (t370.length : Int)
            ·rw [if_pos c16] at H
             have c16b0 : decide (x10_3 < (t370.length : Int)) = true := decide_eq_true c16
             clear c16
             by_cases c17 : (rd t370 x10_3) = 2
             ·rw [if_pos c17] at H
              have c17b0 : ((rd t370 x10_3) == 2) = true := beq_iff_eq.mpr c17
              have c17b1 : ((rd t370 x10_3) != 2) = false := bne_eq_false_iff_eq.mpr c17
              clear c17
              have H' := Aside0.mk H
              clear H
              have hcz18_0 : wr.cell? ⟨gb373, 0, none⟩ = some (.slice Ao9 t367.length co9) := (blk_cell BK373.out 0).trans rfl
              have hcz18_1 : wr.cell? ⟨gb373, 1, none⟩ = some (.slice Ao11 t370.length co11) := (blk_cell BK373.out 1).trans rfl
              have hfz18_0 := blk_frozen BK373.out 0
              have hfz18_1 := blk_frozen BK373.out 1
              have p374 : 0 ≤ (x10_3 : Int) := of_decide_eq_true (by first | (with_reducible assumption) | assumption)
              have q374 : x10_3 < (t370.length : Int) := of_decide_eq_true (by first | (with_reducible assumption) | assumption)
              obtain ⟨ad374, e374, hx374_0⟩ := Kd.at_int (Kd.R_reads' HO_374001.out).2.2 x10_3 p374 q374
              cases e374
              replace p374 := eq_true p374
              replace q374 := eq_true q374
              go_wp2
              go_meet
              case rel => exact ⟨_, (x10_3), (by first | rfl | (simp; done) | (simp [*]; done)), H', ⟨by have := HJ2.out; have := HK2.out; have := HK3.out; first | omega | exact Nat.le_refl _⟩, ⟨by (with_reducible repeat (first | apply Kd.R_alloc | apply Kd.R_drewN | apply Kd.R_drew)); exact HO_8.out⟩, ⟨by (with_reducible repeat (first | apply Kd.R_alloc | apply Kd.R_drewN | apply Kd.R_drew)); exact HO_374000.out⟩, ⟨by (with_reducible repeat (first | apply Kd.R_alloc | apply Kd.R_drewN | apply Kd.R_drew)); exact HO_374001.out⟩, ⟨by (with_reducible repeat (first | refine blk_drewN ?_ _ | refine blk_drew ?_ | refine blk_alloc ?_ _)); exact BK373.out⟩, ⟨by repeat (first | (with_reducible first | exact HB.out | apply below_alloc | apply pw_below_drewN | apply below_drew1 | refine below_set ?_ GE373.out) | exact HB.out)⟩⟩
             ·rw [if_neg c17] at H
              have c17b0 : ((rd t370 x10_3) == 2) = false := beq_eq_false_iff_ne.mpr c17
              have c17b1 : ((rd t370 x10_3) != 2) = true := bne_iff_ne.mpr c17
              have H' := Aside0.mk H
              clear H
              have hcz19_0 : wr.cell? ⟨gb373, 0, none⟩ = some (.slice Ao9 t367.length co9) := (blk_cell BK373.out 0).trans rfl
              have hcz19_1 : wr.cell? ⟨gb373, 1, none⟩ = some (.slice Ao11 t370.length co11) := (blk_cell BK373.out 1).trans rfl
              have hfz19_0 := blk_frozen BK373.out 0
              have hfz19_1 := blk_frozen BK373.out 1
              have p374 : 0 ≤ (x10_3 : Int) := of_decide_eq_true (by first | (with_reducible assumption) | assumption)
              have q374 : x10_3 < (t370.length : Int) := of_decide_eq_true (by first | (with_reducible assumption) | assumption)
              obtain ⟨ad374, e374, hx374_0⟩ := Kd.at_int (Kd.R_reads' HO_374001.out).2.2 x10_3 p374 q374
              cases e374
              replace p374 := eq_true p374
              replace q374 := eq_true q374
              go_wp2
              go_roundg k3
              case measure => have := HJ2.out; have := HK2.out; have := HK3.out; omega
              case rel => exact ⟨(wrap64 (x10_3 + 1)), (by first | rfl | (simp; done) | (simp [*]; done)), H', ⟨by have := HJ2.out; have := HK2.out; have := HK3.out; omega⟩, ⟨by (with_reducible repeat (first | apply Kd.R_alloc | apply Kd.R_drewN | apply Kd.R_drew)); exact HO_8.out⟩, ⟨by (with_reducible repeat (first | apply Kd.R_alloc | apply Kd.R_drewN | apply Kd.R_drew)); exact HO_374000.out⟩, ⟨by (with_reducible repeat (first | apply Kd.R_alloc | apply Kd.R_drewN | apply Kd.R_drew)); exact HO_374001.out⟩, ⟨by (with_reducible repeat (first | refine blk_drewN ?_ _ | refine blk_drew ?_ | refine blk_alloc ?_ _)); exact BK373.out⟩, ⟨by repeat (first | (with_reducible first | exact HB.out | apply below_alloc | apply pw_below_drewN | apply below_drew1 | refine below_set ?_ GE373.out) | exact HB.out)⟩⟩
            ·rw [if_neg c16] at H
             exact absurd H (by simp)
           ·rw [if_neg c15] at H
            exact absurd H (by simp)
          ·rw [if_neg c14] at H
           have c14b0 : decide (x10_3 < (t370.length : Int)) = false := decide_eq_false c14
           clear c14
           (first | rw [c14b0] | (simp only [i64_w, i32_w]; rw [c14b0]) | skip)
           have H' := Aside0.mk H
           clear H
           go_wp2
           go_meet
           case rel => exact ⟨_, (x10_3), (by first | rfl | (simp; done) | (simp [*]; done)), H', ⟨by have := HJ2.out; have := HK2.out; have := HK3.out; first | omega | exact Nat.le_refl _⟩, ⟨by (with_reducible repeat (first | apply Kd.R_alloc | apply Kd.R_drewN | apply Kd.R_drew)); exact HO_8.out⟩, ⟨by (with_reducible repeat (first | apply Kd.R_alloc | apply Kd.R_drewN | apply Kd.R_drew)); exact HO_374000.out⟩, ⟨by (with_reducible repeat (first | apply Kd.R_alloc | apply Kd.R_drewN | apply Kd.R_drew)); exact HO_374001.out⟩, ⟨by (with_reducible repeat (first | refine blk_drewN ?_ _ | refine blk_drew ?_ | refine blk_alloc ?_ _)); exact BK373.out⟩, ⟨by repeat (first | (with_reducible first | exact HB.out | apply below_alloc | apply pw_below_drewN | apply below_drew1 | refine below_set ?_ GE373.out) | exact HB.out)⟩⟩
       case rest =>
        clear HC13
        try clear c1
        try clear p2
        try clear c3
        try clear p3
        try clear q3
        try clear hx3
        try clear c4
        try clear c4b0
        try clear c5
        try clear p6
        try clear c12
        try clear c12b0
        try clear c14
        try clear c14b0
        try clear c15
        try clear c15b0
        try clear c16
        try clear c16b0
        try clear c17
        try clear c17b0
        try clear c17b1
        try clear hcz10_0
        try clear hcz10_1
        try clear hcz18_0
        try clear hcz18_1
        try clear hcz19_0
        try clear hcz19_1
        try clear hfz10_0
        try clear hfz10_1
        try clear hfz18_0
        try clear hfz18_1
        try clear hfz19_0
        try clear hfz19_1
        try clear hx374_0
        try clear p2
        try clear p374
        try clear q374
        obtain ⟨kq, x10_12, rfl, HA, HJ12, HO_8, HO_374000, HO_374001, BK373, HB⟩ := hcut
        cases kq with
        | zero => exact absurd HA.out (by simp [galleyref22_Wrap.j3])
        | succ kj12 =>
         have H := HA.out
         clear HA
         simp only [galleyref22_Wrap.j3] at H
         have H' := Aside0.mk H
         clear H
         go_wp2
         go_loopg [8, 9] kj12 (fun kq v8 v9 w' => ∃ (x8_4 : List Int) (x9_4 : Int), v9 = .int .i64 x9_4 ∧ Aside0 (galleyref22_Wrap.l2 kq a1 (t370.length : Int) x8_4 x9_4 x10_12 t367 t370 = some (r1, r2)) ∧ Aside0 (kq ≤ kj12) ∧ Aside0 (Kd.R (Kd.int .i64) 3 w' w.heap.size (fun k_ => some k_ ≠ ((.slice Ao9 t367.length co9) : Value).ownBlock ∧ some k_ ≠ ((.slice Ao11 t370.length co11) : Value).ownBlock) v8 x8_4) ∧ Aside0 (Kd.R (Kd.int .i64) 3 w' w.heap.size (fun k_ => some k_ ≠ (v8 : Value).ownBlock ∧ some k_ ≠ ((.slice Ao11 t370.length co11) : Value).ownBlock) (.slice Ao9 t367.length co9) t367) ∧ Aside0 (Kd.R (Kd.int .i64) 3 w' w.heap.size (fun k_ => some k_ ≠ (v8 : Value).ownBlock ∧ some k_ ≠ ((.slice Ao9 t367.length co9) : Value).ownBlock) (.slice Ao11 t370.length co11) t370) ∧ Aside0 (w'.heap[gb373]? = some (.cells #[(.slice Ao9 t367.length co9), (.slice Ao11 t370.length co11)] 96 (0, 0))) ∧ Aside0 (Below w.heap.size w w'))
         case atStart => exact ⟨(x8_2), (x9_2), (by first | rfl | (simp; done) | (simp [*]; done)), H', ⟨Nat.le_refl _⟩, ⟨by (with_reducible repeat (first | apply Kd.R_alloc | apply Kd.R_drewN | apply Kd.R_drew)); exact HO_8.out⟩, ⟨by (with_reducible repeat (first | apply Kd.R_alloc | apply Kd.R_drewN | apply Kd.R_drew)); exact HO_374000.out⟩, ⟨by (with_reducible repeat (first | apply Kd.R_alloc | apply Kd.R_drewN | apply Kd.R_drew)); exact HO_374001.out⟩, ⟨by (with_reducible repeat (first | refine blk_drewN ?_ _ | refine blk_drew ?_ | refine blk_alloc ?_ _)); exact BK373.out⟩, ⟨by repeat (first | (with_reducible first | exact HB.out | apply below_alloc | apply pw_below_drewN | apply below_drew1 | refine below_set ?_ GE373.out) | exact HB.out)⟩⟩
         case round =>
          clear H'
          try clear c1
          try clear p2
          try clear c3
          try clear p3
          try clear q3
          try clear hx3
          try clear c4
          try clear c4b0
          try clear c5
          try clear p6
          try clear c12
          try clear c12b0
          try clear c14
          try clear c14b0
          try clear c15
          try clear c15b0
          try clear c16
          try clear c16b0
          try clear c17
          try clear c17b0
          try clear c17b1
          try clear hcz10_0
          try clear hcz10_1
          try clear hcz18_0
          try clear hcz18_1
          try clear hcz19_0
          try clear hcz19_1
          try clear hfz10_0
          try clear hfz10_1
          try clear hfz18_0
          try clear hfz18_1
          try clear hfz19_0
          try clear hfz19_1
          try clear hx374_0
          try clear p2
          try clear p3
          try clear p374
          try clear p6
          try clear q3
          try clear q374
          obtain ⟨x8_4, x9_4, rfl, HA, HK4, HO_8, HO_374000, HO_374001, BK373, HB⟩ := hrel
          cases gk with
          | zero => exact absurd HA.out (by simp [galleyref22_Wrap.l2])
          | succ k4 =>
           have H := HA.out
           clear HA
           simp only [galleyref22_Wrap.l2] at H
           by_cases c20 : (wrap64 (x10_12 - x9_4)) > a1
           ·rw [if_pos c20] at H
            have c20b0 : decide (a1 < (wrap64 (x10_12 - x9_4))) = true := decide_eq_true c20
            clear c20
            have H' := Aside0.mk H
            clear H
            go_wp2
            go_loopg [11] k4 (fun kq v11 w' => ∃ (x11_5 : Int), v11 = .int .i64 x11_5 ∧ Aside0 (galleyref22_Wrap.l3 kq a1 (t370.length : Int) x8_4 x9_4 x10_12 x11_5 t367 t370 = some (r1, r2)) ∧ Aside0 (kq ≤ k4) ∧ Aside0 (Kd.R (Kd.int .i64) 3 w' w.heap.size (fun k_ => some k_ ≠ ((.slice Ao9 t367.length co9) : Value).ownBlock ∧ some k_ ≠ ((.slice Ao11 t370.length co11) : Value).ownBlock) u8 x8_4) ∧ Aside0 (Kd.R (Kd.int .i64) 3 w' w.heap.size (fun k_ => some k_ ≠ (u8 : Value).ownBlock ∧ some k_ ≠ ((.slice Ao11 t370.length co11) : Value).ownBlock) (.slice Ao9 t367.length co9) t367) ∧ Aside0 (Kd.R (Kd.int .i64) 3 w' w.heap.size (fun k_ => some k_ ≠ (u8 : Value).ownBlock ∧ some k_ ≠ ((.slice Ao9 t367.length co9) : Value).ownBlock) (.slice Ao11 t370.length co11) t370) ∧ Aside0 (w'.heap[gb373]? = some (.cells #[(.slice Ao9 t367.length co9), (.slice Ao11 t370.length co11)] 96 (0, 0))) ∧ Aside0 (Below w.heap.size w w'))
            case atStart => exact ⟨(wrap64 (x9_4 + a1)), (by first | rfl | (simp; done) | (simp [*]; done)), H', ⟨Nat.le_refl _⟩, ⟨by (with_reducible repeat (first | apply Kd.R_alloc | apply Kd.R_drewN | apply Kd.R_drew)); exact HO_8.out⟩, ⟨by (with_reducible repeat (first | apply Kd.R_alloc | apply Kd.R_drewN | apply Kd.R_drew)); exact HO_374000.out⟩, ⟨by (with_reducible repeat (first | apply Kd.R_alloc | apply Kd.R_drewN | apply Kd.R_drew)); exact HO_374001.out⟩, ⟨by (with_reducible repeat (first | refine blk_drewN ?_ _ | refine blk_drew ?_ | refine blk_alloc ?_ _)); exact BK373.out⟩, ⟨by repeat (first | (with_reducible first | exact HB.out | apply below_alloc | apply pw_below_drewN | apply below_drew1 | refine below_set ?_ GE373.out) | exact HB.out)⟩⟩
            case round =>
             clear H'
             try clear c1
             try clear c2
             try clear p2
             try clear c3
             try clear p3
             try clear q3
             try clear hx3
             try clear c4
             try clear c4b0
             try clear c5
             try clear p6
             try clear c12
             try clear c12b0
             try clear c14
             try clear c14b0
             try clear c15
             try clear c15b0
             try clear c16
             try clear c16b0
             try clear c17
             try clear c17b0
             try clear c17b1
             try clear c20
             try clear c20b0
             try clear hcz10_0
             try clear hcz10_1
             try clear hcz18_0
             try clear hcz18_1
             try clear hcz19_0
             try clear hcz19_1
             try clear hfz10_0
             try clear hfz10_1
             try clear hfz18_0
             try clear hfz18_1
             try clear hfz19_0
             try clear hfz19_1
             try clear hx374_0
             try clear p2
             try clear p3
             try clear p374
             try clear p6
             try clear q3
             try clear q374
             obtain ⟨x11_5, rfl, HA, HK5, HO_8, HO_374000, HO_374001, BK373, HB⟩ := hrel
             cases gk with
             | zero => exact absurd HA.out (by simp [galleyref22_Wrap.l3])
             | succ k5 =>
              have H := HA.out
              clear HA
              simp only [galleyref22_Wrap.l3] at H
              by_cases c21 : x11_5 > x9_4
              ·rw [if_pos c21] at H
               have c21b0 : decide (x9_4 < x11_5) = true := decide_eq_true c21
               clear c21
               obtain ⟨ji22, hji22⟩ : ∃ j_ : Int, (wrap64 (x11_5 - 1)) = j_ := ⟨_, rfl⟩
               replace H : (if 0 ≤ (ji22) then (if (ji22) < (t370.length : Int) then (if (rd t370 (ji22)) = 1 then (if x11_5 = x9_4 then (if 0 ≤ (wrap64 (x9_4 + a1)) then (if (wrap64 (x9_4 + a1)) < (t367.length : Int) then (if x8_4.length < 17592186044416 then (galleyref22_Wrap.l2 k5 a1 (t370.length : Int) (x8_4 ++ [rd t367 (wrap64 (x9_4 + a1))]) (wrap64 (x9_4 + a1)) x10_12 t367 t370) else (none)) else (none)) else (none)) else (if 0 ≤ x11_5 then (if x11_5 < (t367.length : Int) then (if x8_4.length < 17592186044416 then (galleyref22_Wrap.l2 k5 a1 (t370.length : Int) (x8_4 ++ [rd t367 x11_5]) x11_5 x10_12 t367 t370) else (none)) else (none)) else (none))) else (galleyref22_Wrap.l3 k5 a1 (t370.length : Int) x8_4 x9_4 x10_12 ji22 t367 t370)) else (none)) else (none)) = some (r1, r2) := by first | (rw [hji22] at H; exact H) | (simp only [hji22] at H ⊢; exact H)
               have hji22w : (IntKind.i64.wrap (x11_5 - 1)) = ji22 := (i64_w _).trans hji22
               by_cases c23 : 0 ≤ (ji22)
               ·rw [if_pos c23] at H
                have c23b0 : decide (0 ≤ (ji22)) = true := decide_eq_true c23
                clear c23
                by_cases c24 : (ji22) < (t370.length : Int)
                ·rw [if_pos c24] at H
                 have c24b0 : decide ((ji22) < (t370.length : Int)) = true := decide_eq_true c24
                 clear c24
                 by_cases c25 : (rd t370 (ji22)) = 1
                 ·rw [if_pos c25] at H
                  have c25b0 : ((rd t370 (ji22)) == 1) = true := beq_iff_eq.mpr c25
                  have c25b1 : ((rd t370 (ji22)) != 1) = false := bne_eq_false_iff_eq.mpr c25
                  clear c25
                  by_cases c26 : x11_5 = x9_4
                  ·rw [if_pos c26] at H
                   have c26b0 : (x11_5 == x9_4) = true := beq_iff_eq.mpr c26
                   have c26b1 : (x11_5 != x9_4) = false := bne_eq_false_iff_eq.mpr c26
                   clear c26
                   obtain ⟨ji27, hji27⟩ : ∃ j_ : Int, (wrap64 (x9_4 + a1)) = j_ := ⟨_, rfl⟩
                   replace H : (if 0 ≤ (ji27) then (if (ji27) < (t367.length : Int) then (if x8_4.length < 17592186044416 then (galleyref22_Wrap.l2 k5 a1 (t370.length : Int) (x8_4 ++ [rd t367 (ji27)]) ji27 x10_12 t367 t370) else (none)) else (none)) else (none)) = some (r1, r2) := by first | (rw [hji27] at H; exact H) | (simp only [hji27] at H ⊢; exact H)
                   have hji27w : (IntKind.i64.wrap (x9_4 + a1)) = ji27 := (i64_w _).trans hji27
                   by_cases c28 : 0 ≤ (ji27)
                   ·rw [if_pos c28] at H
                    have c28b0 : decide (0 ≤ (ji27)) = true := decide_eq_true c28
                    clear c28
                    by_cases c29 : (ji27) < (t367.length : Int)
                    ·rw [if_pos c29] at H
                     have c29b0 : decide ((ji27) < (t367.length : Int)) = true := decide_eq_true c29
                     clear c29
                     by_cases c30 : x8_4.length < 17592186044416
                     ·rw [if_pos c30] at H
                      have LMc30 := Aside0.mk c30
                      clear c30
                      obtain ⟨y377, hy377⟩ : ∃ y_ : List Int, y_ = (x8_4 ++ [rd t367 (ji27)]) := ⟨_, rfl⟩
                      replace H : (galleyref22_Wrap.l2 k5 a1 (t370.length : Int) y377 ji27 x10_12 t367 t370) = some (r1, r2) := by first | (rw [hy377]; with_reducible exact H) | (have H2_ := (Option.bind_some _ _).symm.trans H; rw [hy377]; with_reducible exact H2_) | (have H2_ := (Option.bind_some _ _).symm.trans H; with_reducible exact H2_) | with_reducible exact H | (rw [hy377]; exact H) | exact H
                      have Ny377 := Aside0.mk hy377
                      clear hy377
                      have H' := Aside0.mk H
                      clear H
                      have hcz31_0 : wr.cell? ⟨gb373, 0, none⟩ = some (.slice Ao9 t367.length co9) := (blk_cell BK373.out 0).trans rfl
                      have hcz31_1 : wr.cell? ⟨gb373, 1, none⟩ = some (.slice Ao11 t370.length co11) := (blk_cell BK373.out 1).trans rfl
                      have hfz31_0 := blk_frozen BK373.out 0
                      have hfz31_1 := blk_frozen BK373.out 1
                      have p375 : 0 ≤ ((ji22) : Int) := of_decide_eq_true (by first | (with_reducible assumption) | assumption)
                      have q375 : (ji22) < (t370.length : Int) := of_decide_eq_true (by first | (with_reducible assumption) | assumption)
                      obtain ⟨ad375, e375, hx375_0⟩ := Kd.at_int (Kd.R_reads' HO_374001.out).2.2 (ji22) p375 q375
                      cases e375
                      replace p375 := eq_true p375
                      replace q375 := eq_true q375
                      have p376 : 0 ≤ ((ji27) : Int) := of_decide_eq_true (by first | (with_reducible assumption) | assumption)
                      have q376 : (ji27) < (t367.length : Int) := of_decide_eq_true (by first | (with_reducible assumption) | assumption)
                      obtain ⟨ad376, e376, hx376_0⟩ := Kd.at_int (Kd.R_reads' HO_374000.out).2.2 (ji27) p376 q376
                      cases e376
                      replace p376 := eq_true p376
                      replace q376 := eq_true q376
                      go_wp2_with (first | ((with_reducible refine gate_builtin (b := .append) (xs := #[.tmp 68, .tmp 74]) rfl ?_); at_builtin; refine Kd.R_append (Kd.int .i64) (w0 := w) w.heap.size rfl (.tmp 68) (.tmp 74) 69 3 (.int .i64 0) 8 rfl Tryd.underlying69 info3 rfl (by decide) (by omega) u8 x8_4 (rd t367 (ji27)) [.int .i64 (rd t367 (ji27))] (fun k_ => some k_ ≠ (.slice (some ad376) t367.length co9 : Value).ownBlock ∧ some k_ ≠ (.slice (some ad375) t370.length co11 : Value).ownBlock) (fun _ => False) rfl rfl ?aP (fun _ hk => hk.elim) ?aF ?aO ?aB ?aS ?aL ?_; (case aP => exact rfl); (case aB => exact (by repeat (first | (with_reducible first | exact HB.out | apply below_alloc | apply pw_below_drewN | apply below_drew1 | refine below_set ?_ GE373.out) | exact HB.out))); (case aF => exact (fun k_ hk => ⟨Kd.fresh' (Kd.R_lt (by (with_reducible repeat (first | apply Kd.R_alloc | apply Kd.R_drewN | apply Kd.R_drew)); exact HO_374000.out)) k_ hk, Kd.fresh' (Kd.R_lt (by (with_reducible repeat (first | apply Kd.R_alloc | apply Kd.R_drewN | apply Kd.R_drew)); exact HO_374001.out)) k_ hk⟩)); (case aO => exact (by (with_reducible repeat (first | apply Kd.R_alloc | apply Kd.R_drewN | apply Kd.R_drew)); exact HO_8.out)); (case aS => exact (below_size (by repeat (first | (with_reducible first | exact HB.out | apply below_alloc | apply pw_below_drewN | apply below_drew1 | refine below_set ?_ GE373.out) | exact HB.out)))); (case aL => have := LMc30.out; omega); intro v378 w32 ho hb hg hat; rw [← Ny377.out] at ho; have n0_ := Aside0.mk (Kd.R_after (ok := (fun k_ => some k_ ≠ (.slice (some ad375) t370.length co11 : Value).ownBlock)) (by (with_reducible repeat (first | apply Kd.R_alloc | apply Kd.R_drewN | apply Kd.R_drew)); exact Kd.R_mono HO_374000.out (fun _ hk => ⟨hk.2, hk.1⟩)) hg hat); have n1_ := Aside0.mk (Kd.R_after (ok := (fun k_ => some k_ ≠ (.slice (some ad376) t367.length co9 : Value).ownBlock)) (by (with_reducible repeat (first | apply Kd.R_alloc | apply Kd.R_drewN | apply Kd.R_drew)); exact Kd.R_mono HO_374001.out (fun _ hk => ⟨hk.2, hk.1⟩)) hg hat); have n2_ := Aside0.mk (blk_grown (g := gb373) (o := .cells #[.slice (some ad376) t367.length co9, .slice (some ad375) t370.length co11] 96 (0, 0)) (by (with_reducible repeat (first | refine blk_drewN ?_ _ | refine blk_drew ?_ | refine blk_alloc ?_ _)); exact BK373.out) hg (Kd.R_ne HO_8.out BK373.out (by decide))); have n3_ := Aside0.mk (hb); have n4_ := Aside0.mk (ho); clear HO_374000; clear HO_374001; clear BK373; clear HB; clear HO_8; have HO_374000 := n0_; have HO_374001 := n1_; have BK373 := n2_; have HB := n3_; have HO379 := n4_; clear n0_ n1_ n2_ n3_ n4_; clear ho hb hg hat))
                      go_roundg k5
                      case measure => have := HJ2.out; have := HK2.out; have := HJ12.out; have := HK4.out; have := HK5.out; omega
                      case rel => exact ⟨(y377), (ji27), (by first | rfl | (simp; done) | (simp only [← hji27] <;> (first | rfl | simp)) | (simp [*]; done)), H', ⟨by have := HJ2.out; have := HK2.out; have := HJ12.out; have := HK4.out; have := HK5.out; omega⟩, ⟨by (with_reducible repeat (first | apply Kd.R_alloc | apply Kd.R_drewN | apply Kd.R_drew)); exact HO379.out⟩, ⟨by (with_reducible repeat (first | apply Kd.R_alloc | apply Kd.R_drewN | apply Kd.R_drew)); exact Kd.R_mono HO_374000.out (fun _ hk => ⟨hk.2, hk.1⟩)⟩, ⟨by (with_reducible repeat (first | apply Kd.R_alloc | apply Kd.R_drewN | apply Kd.R_drew)); exact Kd.R_mono HO_374001.out (fun _ hk => ⟨hk.2, hk.1⟩)⟩, ⟨by (with_reducible repeat (first | refine blk_drewN ?_ _ | refine blk_drew ?_ | refine blk_alloc ?_ _)); exact BK373.out⟩, ⟨by repeat (first | (with_reducible first | exact HB.out | apply below_alloc | apply pw_below_drewN | apply below_drew1 | refine below_set ?_ GE373.out) | exact HB.out)⟩⟩
                     ·rw [if_neg c30] at H
                      exact absurd H (by simp)
                    ·rw [if_neg c29] at H
                     exact absurd H (by simp)
                   ·rw [if_neg c28] at H
                    exact absurd H (by simp)
                  ·rw [if_neg c26] at H
                   have c26b0 : (x11_5 == x9_4) = false := beq_eq_false_iff_ne.mpr c26
                   have c26b1 : (x11_5 != x9_4) = true := bne_iff_ne.mpr c26
                   by_cases c33 : 0 ≤ x11_5
                   ·rw [if_pos c33] at H
                    have c33b0 : decide (0 ≤ x11_5) = true := decide_eq_true c33
                    clear c33
                    by_cases c34 : x11_5 < (t367.length : Int)
                    ·rw [if_pos c34] at H
                     have c34b0 : decide (x11_5 < (t367.length : Int)) = true := decide_eq_true c34
                     clear c34
                     by_cases c35 : x8_4.length < 17592186044416
                     ·rw [if_pos c35] at H
                      have LMc35 := Aside0.mk c35
                      clear c35
                      obtain ⟨y381, hy381⟩ : ∃ y_ : List Int, y_ = (x8_4 ++ [rd t367 x11_5]) := ⟨_, rfl⟩
                      replace H : (galleyref22_Wrap.l2 k5 a1 (t370.length : Int) y381 x11_5 x10_12 t367 t370) = some (r1, r2) := by first | (rw [hy381]; with_reducible exact H) | (have H2_ := (Option.bind_some _ _).symm.trans H; rw [hy381]; with_reducible exact H2_) | (have H2_ := (Option.bind_some _ _).symm.trans H; with_reducible exact H2_) | with_reducible exact H | (rw [hy381]; exact H) | exact H
                      have Ny381 := Aside0.mk hy381
                      clear hy381
                      have H' := Aside0.mk H
                      clear H
                      have hcz36_0 : wr.cell? ⟨gb373, 0, none⟩ = some (.slice Ao9 t367.length co9) := (blk_cell BK373.out 0).trans rfl
                      have hcz36_1 : wr.cell? ⟨gb373, 1, none⟩ = some (.slice Ao11 t370.length co11) := (blk_cell BK373.out 1).trans rfl
                      have hfz36_0 := blk_frozen BK373.out 0
                      have hfz36_1 := blk_frozen BK373.out 1
                      have p375 : 0 ≤ ((ji22) : Int) := of_decide_eq_true (by first | (with_reducible assumption) | assumption)
                      have q375 : (ji22) < (t370.length : Int) := of_decide_eq_true (by first | (with_reducible assumption) | assumption)
                      obtain ⟨ad375, e375, hx375_0⟩ := Kd.at_int (Kd.R_reads' HO_374001.out).2.2 (ji22) p375 q375
                      cases e375
                      replace p375 := eq_true p375
                      replace q375 := eq_true q375
                      have p380 : 0 ≤ (x11_5 : Int) := of_decide_eq_true (by first | (with_reducible assumption) | assumption)
                      have q380 : x11_5 < (t367.length : Int) := of_decide_eq_true (by first | (with_reducible assumption) | assumption)
                      obtain ⟨ad380, e380, hx380_0⟩ := Kd.at_int (Kd.R_reads' HO_374000.out).2.2 x11_5 p380 q380
                      cases e380
                      replace p380 := eq_true p380
                      replace q380 := eq_true q380
                      go_wp2_with (first | ((with_reducible refine gate_builtin (b := .append) (xs := #[.tmp 68, .tmp 74]) rfl ?_); at_builtin; refine Kd.R_append (Kd.int .i64) (w0 := w) w.heap.size rfl (.tmp 68) (.tmp 74) 69 3 (.int .i64 0) 8 rfl Tryd.underlying69 info3 rfl (by decide) (by omega) u8 x8_4 (rd t367 x11_5) [.int .i64 (rd t367 x11_5)] (fun k_ => some k_ ≠ (.slice (some ad380) t367.length co9 : Value).ownBlock ∧ some k_ ≠ (.slice (some ad375) t370.length co11 : Value).ownBlock) (fun _ => False) rfl rfl ?aP (fun _ hk => hk.elim) ?aF ?aO ?aB ?aS ?aL ?_; (case aP => exact rfl); (case aB => exact (by repeat (first | (with_reducible first | exact HB.out | apply below_alloc | apply pw_below_drewN | apply below_drew1 | refine below_set ?_ GE373.out) | exact HB.out))); (case aF => exact (fun k_ hk => ⟨Kd.fresh' (Kd.R_lt (by (with_reducible repeat (first | apply Kd.R_alloc | apply Kd.R_drewN | apply Kd.R_drew)); exact HO_374000.out)) k_ hk, Kd.fresh' (Kd.R_lt (by (with_reducible repeat (first | apply Kd.R_alloc | apply Kd.R_drewN | apply Kd.R_drew)); exact HO_374001.out)) k_ hk⟩)); (case aO => exact (by (with_reducible repeat (first | apply Kd.R_alloc | apply Kd.R_drewN | apply Kd.R_drew)); exact HO_8.out)); (case aS => exact (below_size (by repeat (first | (with_reducible first | exact HB.out | apply below_alloc | apply pw_below_drewN | apply below_drew1 | refine below_set ?_ GE373.out) | exact HB.out)))); (case aL => have := LMc35.out; omega); intro v382 w37 ho hb hg hat; rw [← Ny381.out] at ho; have n0_ := Aside0.mk (Kd.R_after (ok := (fun k_ => some k_ ≠ (.slice (some ad375) t370.length co11 : Value).ownBlock)) (by (with_reducible repeat (first | apply Kd.R_alloc | apply Kd.R_drewN | apply Kd.R_drew)); exact Kd.R_mono HO_374000.out (fun _ hk => ⟨hk.2, hk.1⟩)) hg hat); have n1_ := Aside0.mk (Kd.R_after (ok := (fun k_ => some k_ ≠ (.slice (some ad380) t367.length co9 : Value).ownBlock)) (by (with_reducible repeat (first | apply Kd.R_alloc | apply Kd.R_drewN | apply Kd.R_drew)); exact Kd.R_mono HO_374001.out (fun _ hk => ⟨hk.2, hk.1⟩)) hg hat); have n2_ := Aside0.mk (blk_grown (g := gb373) (o := .cells #[.slice (some ad380) t367.length co9, .slice (some ad375) t370.length co11] 96 (0, 0)) (by (with_reducible repeat (first | refine blk_drewN ?_ _ | refine blk_drew ?_ | refine blk_alloc ?_ _)); exact BK373.out) hg (Kd.R_ne HO_8.out BK373.out (by decide))); have n3_ := Aside0.mk (hb); have n4_ := Aside0.mk (ho); clear HO_374000; clear HO_374001; clear BK373; clear HB; clear HO_8; have HO_374000 := n0_; have HO_374001 := n1_; have BK373 := n2_; have HB := n3_; have HO383 := n4_; clear n0_ n1_ n2_ n3_ n4_; clear ho hb hg hat))
                      go_roundg k5
                      case measure => have := HJ2.out; have := HK2.out; have := HJ12.out; have := HK4.out; have := HK5.out; omega
                      case rel => exact ⟨(y381), (x11_5), (by first | rfl | (simp; done) | (simp [*]; done)), H', ⟨by have := HJ2.out; have := HK2.out; have := HJ12.out; have := HK4.out; have := HK5.out; omega⟩, ⟨by (with_reducible repeat (first | apply Kd.R_alloc | apply Kd.R_drewN | apply Kd.R_drew)); exact HO383.out⟩, ⟨by (with_reducible repeat (first | apply Kd.R_alloc | apply Kd.R_drewN | apply Kd.R_drew)); exact Kd.R_mono HO_374000.out (fun _ hk => ⟨hk.2, hk.1⟩)⟩, ⟨by (with_reducible repeat (first | apply Kd.R_alloc | apply Kd.R_drewN | apply Kd.R_drew)); exact Kd.R_mono HO_374001.out (fun _ hk => ⟨hk.2, hk.1⟩)⟩, ⟨by (with_reducible repeat (first | refine blk_drewN ?_ _ | refine blk_drew ?_ | refine blk_alloc ?_ _)); exact BK373.out⟩, ⟨by repeat (first | (with_reducible first | exact HB.out | apply below_alloc | apply pw_below_drewN | apply below_drew1 | refine below_set ?_ GE373.out) | exact HB.out)⟩⟩
                     ·rw [if_neg c35] at H
                      exact absurd H (by simp)
                    ·rw [if_neg c34] at H
                     exact absurd H (by simp)
                   ·rw [if_neg c33] at H
                    exact absurd H (by simp)
                 ·rw [if_neg c25] at H
                  have c25b0 : ((rd t370 (ji22)) == 1) = false := beq_eq_false_iff_ne.mpr c25
                  have c25b1 : ((rd t370 (ji22)) != 1) = true := bne_iff_ne.mpr c25
                  have H' := Aside0.mk H
                  clear H
                  have hcz38_0 : wr.cell? ⟨gb373, 0, none⟩ = some (.slice Ao9 t367.length co9) := (blk_cell BK373.out 0).trans rfl
                  have hcz38_1 : wr.cell? ⟨gb373, 1, none⟩ = some (.slice Ao11 t370.length co11) := (blk_cell BK373.out 1).trans rfl
                  have hfz38_0 := blk_frozen BK373.out 0
                  have hfz38_1 := blk_frozen BK373.out 1
                  have p375 : 0 ≤ ((ji22) : Int) := of_decide_eq_true (by first | (with_reducible assumption) | assumption)
                  have q375 : (ji22) < (t370.length : Int) := of_decide_eq_true (by first | (with_reducible assumption) | assumption)
                  obtain ⟨ad375, e375, hx375_0⟩ := Kd.at_int (Kd.R_reads' HO_374001.out).2.2 (ji22) p375 q375
                  cases e375
                  replace p375 := eq_true p375
                  replace q375 := eq_true q375
                  go_wp2
                  go_roundg k5
                  case measure => have := HJ2.out; have := HK2.out; have := HJ12.out; have := HK4.out; have := HK5.out; omega
                  case rel => exact ⟨(ji22), (by first | rfl | (simp; done) | (simp only [← hji22] <;> (first | rfl | simp)) | (simp [*]; done)), H', ⟨by have := HJ2.out; have := HK2.out; have := HJ12.out; have := HK4.out; have := HK5.out; omega⟩, ⟨by (with_reducible repeat (first | apply Kd.R_alloc | apply Kd.R_drewN | apply Kd.R_drew)); exact HO_8.out⟩, ⟨by (with_reducible repeat (first | apply Kd.R_alloc | apply Kd.R_drewN | apply Kd.R_drew)); exact HO_374000.out⟩, ⟨by (with_reducible repeat (first | apply Kd.R_alloc | apply Kd.R_drewN | apply Kd.R_drew)); exact HO_374001.out⟩, ⟨by (with_reducible repeat (first | refine blk_drewN ?_ _ | refine blk_drew ?_ | refine blk_alloc ?_ _)); exact BK373.out⟩, ⟨by repeat (first | (with_reducible first | exact HB.out | apply below_alloc | apply pw_below_drewN | apply below_drew1 | refine below_set ?_ GE373.out) | exact HB.out)⟩⟩
                ·rw [if_neg c24] at H
                 exact absurd H (by simp)
               ·rw [if_neg c23] at H
                exact absurd H (by simp)
              ·rw [if_neg c21] at H
               have c21b0 : decide (x9_4 < x11_5) = false := decide_eq_false c21
               clear c21
               by_cases c39 : x11_5 = x9_4
               ·rw [if_pos c39] at H
                have c39b0 : (x11_5 == x9_4) = true := beq_iff_eq.mpr c39
                have c39b1 : (x11_5 != x9_4) = false := bne_eq_false_iff_eq.mpr c39
                clear c39
                obtain ⟨ji40, hji40⟩ : ∃ j_ : Int, (wrap64 (x9_4 + a1)) = j_ := ⟨_, rfl⟩
                replace H : (if 0 ≤ (ji40) then (if (ji40) < (t367.length : Int) then (if x8_4.length < 17592186044416 then (galleyref22_Wrap.l2 k5 a1 (t370.length : Int) (x8_4 ++ [rd t367 (ji40)]) ji40 x10_12 t367 t370) else (none)) else (none)) else (none)) = some (r1, r2) := by first | (rw [hji40] at H; exact H) | (simp only [hji40] at H ⊢; exact H)
                have hji40w : (IntKind.i64.wrap (x9_4 + a1)) = ji40 := (i64_w _).trans hji40
                by_cases c41 : 0 ≤ (ji40)
                ·rw [if_pos c41] at H
                 have c41b0 : decide (0 ≤ (ji40)) = true := decide_eq_true c41
                 clear c41
                 by_cases c42 : (ji40) < (t367.length : Int)
                 ·rw [if_pos c42] at H
                  have c42b0 : decide ((ji40) < (t367.length : Int)) = true := decide_eq_true c42
                  clear c42
                  by_cases c43 : x8_4.length < 17592186044416
                  ·rw [if_pos c43] at H
                   have LMc43 := Aside0.mk c43
                   clear c43
                   obtain ⟨y385, hy385⟩ : ∃ y_ : List Int, y_ = (x8_4 ++ [rd t367 (ji40)]) := ⟨_, rfl⟩
                   replace H : (galleyref22_Wrap.l2 k5 a1 (t370.length : Int) y385 ji40 x10_12 t367 t370) = some (r1, r2) := by first | (rw [hy385]; with_reducible exact H) | (have H2_ := (Option.bind_some _ _).symm.trans H; rw [hy385]; with_reducible exact H2_) | (have H2_ := (Option.bind_some _ _).symm.trans H; with_reducible exact H2_) | with_reducible exact H | (rw [hy385]; exact H) | exact H
                   have Ny385 := Aside0.mk hy385
                   clear hy385
                   have H' := Aside0.mk H
                   clear H
                   have hcz44_0 : wr.cell? ⟨gb373, 0, none⟩ = some (.slice Ao9 t367.length co9) := (blk_cell BK373.out 0).trans rfl
                   have hcz44_1 : wr.cell? ⟨gb373, 1, none⟩ = some (.slice Ao11 t370.length co11) := (blk_cell BK373.out 1).trans rfl
                   have hfz44_0 := blk_frozen BK373.out 0
                   have hfz44_1 := blk_frozen BK373.out 1
                   have p384 : 0 ≤ ((ji40) : Int) := of_decide_eq_true (by first | (with_reducible assumption) | assumption)
                   have q384 : (ji40) < (t367.length : Int) := of_decide_eq_true (by first | (with_reducible assumption) | assumption)
                   obtain ⟨ad384, e384, hx384_0⟩ := Kd.at_int (Kd.R_reads' HO_374000.out).2.2 (ji40) p384 q384
                   cases e384
                   replace p384 := eq_true p384
                   replace q384 := eq_true q384
                   go_wp2_with (first | ((with_reducible refine gate_builtin (b := .append) (xs := #[.tmp 68, .tmp 74]) rfl ?_); at_builtin; refine Kd.R_append (Kd.int .i64) (w0 := w) w.heap.size rfl (.tmp 68) (.tmp 74) 69 3 (.int .i64 0) 8 rfl Tryd.underlying69 info3 rfl (by decide) (by omega) u8 x8_4 (rd t367 (ji40)) [.int .i64 (rd t367 (ji40))] (fun k_ => some k_ ≠ (.slice (some ad384) t367.length co9 : Value).ownBlock ∧ some k_ ≠ (.slice Ao11 t370.length co11 : Value).ownBlock) (fun _ => False) rfl rfl ?aP (fun _ hk => hk.elim) ?aF ?aO ?aB ?aS ?aL ?_; (case aP => exact rfl); (case aB => exact (by repeat (first | (with_reducible first | exact HB.out | apply below_alloc | apply pw_below_drewN | apply below_drew1 | refine below_set ?_ GE373.out) | exact HB.out))); (case aF => exact (fun k_ hk => ⟨Kd.fresh' (Kd.R_lt (by (with_reducible repeat (first | apply Kd.R_alloc | apply Kd.R_drewN | apply Kd.R_drew)); exact HO_374000.out)) k_ hk, Kd.fresh' (Kd.R_lt (by (with_reducible repeat (first | apply Kd.R_alloc | apply Kd.R_drewN | apply Kd.R_drew)); exact HO_374001.out)) k_ hk⟩)); (case aO => exact (by (with_reducible repeat (first | apply Kd.R_alloc | apply Kd.R_drewN | apply Kd.R_drew)); exact HO_8.out)); (case aS => exact (below_size (by repeat (first | (with_reducible first | exact HB.out | apply below_alloc | apply pw_below_drewN | apply below_drew1 | refine below_set ?_ GE373.out) | exact HB.out)))); (case aL => have := LMc43.out; omega); intro v386 w45 ho hb hg hat; rw [← Ny385.out] at ho; have n0_ := Aside0.mk (Kd.R_after (ok := (fun k_ => some k_ ≠ (.slice Ao11 t370.length co11 : Value).ownBlock)) (by (with_reducible repeat (first | apply Kd.R_alloc | apply Kd.R_drewN | apply Kd.R_drew)); exact Kd.R_mono HO_374000.out (fun _ hk => ⟨hk.2, hk.1⟩)) hg hat); have n1_ := Aside0.mk (Kd.R_after (ok := (fun k_ => some k_ ≠ (.slice (some ad384) t367.length co9 : Value).ownBlock)) (by (with_reducible repeat (first | apply Kd.R_alloc | apply Kd.R_drewN | apply Kd.R_drew)); exact Kd.R_mono HO_374001.out (fun _ hk => ⟨hk.2, hk.1⟩)) hg hat); have n2_ := Aside0.mk (blk_grown (g := gb373) (o := .cells #[.slice (some ad384) t367.length co9, .slice Ao11 t370.length co11] 96 (0, 0)) (by (with_reducible repeat (first | refine blk_drewN ?_ _ | refine blk_drew ?_ | refine blk_alloc ?_ _)); exact BK373.out) hg (Kd.R_ne HO_8.out BK373.out (by decide))); have n3_ := Aside0.mk (hb); have n4_ := Aside0.mk (ho); clear HO_374000; clear HO_374001; clear BK373; clear HB; clear HO_8; have HO_374000 := n0_; have HO_374001 := n1_; have BK373 := n2_; have HB := n3_; have HO387 := n4_; clear n0_ n1_ n2_ n3_ n4_; clear ho hb hg hat))
                   go_roundg k5
                   case measure => have := HJ2.out; have := HK2.out; have := HJ12.out; have := HK4.out; have := HK5.out; omega
                   case rel => exact ⟨(y385), (ji40), (by first | rfl | (simp; done) | (simp only [← hji40] <;> (first | rfl | simp)) | (simp [*]; done)), H', ⟨by have := HJ2.out; have := HK2.out; have := HJ12.out; have := HK4.out; have := HK5.out; omega⟩, ⟨by (with_reducible repeat (first | apply Kd.R_alloc | apply Kd.R_drewN | apply Kd.R_drew)); exact HO387.out⟩, ⟨by (with_reducible repeat (first | apply Kd.R_alloc | apply Kd.R_drewN | apply Kd.R_drew)); exact Kd.R_mono HO_374000.out (fun _ hk => ⟨hk.2, hk.1⟩)⟩, ⟨by (with_reducible repeat (first | apply Kd.R_alloc | apply Kd.R_drewN | apply Kd.R_drew)); exact Kd.R_mono HO_374001.out (fun _ hk => ⟨hk.2, hk.1⟩)⟩, ⟨by (with_reducible repeat (first | refine blk_drewN ?_ _ | refine blk_drew ?_ | refine blk_alloc ?_ _)); exact BK373.out⟩, ⟨by repeat (first | (with_reducible first | exact HB.out | apply below_alloc | apply pw_below_drewN | apply below_drew1 | refine below_set ?_ GE373.out) | exact HB.out)⟩⟩
                  ·rw [if_neg c43] at H
                   exact absurd H (by simp)
                 ·rw [if_neg c42] at H
                  exact absurd H (by simp)
                ·rw [if_neg c41] at H
                 exact absurd H (by simp)
               ·rw [if_neg c39] at H
                have c39b0 : (x11_5 == x9_4) = false := beq_eq_false_iff_ne.mpr c39
                have c39b1 : (x11_5 != x9_4) = true := bne_iff_ne.mpr c39
                by_cases c46 : 0 ≤ x11_5
                ·rw [if_pos c46] at H
                 have c46b0 : decide (0 ≤ x11_5) = true := decide_eq_true c46
                 clear c46
                 by_cases c47 : x11_5 < (t367.length : Int)
                 ·rw [if_pos c47] at H
                  have c47b0 : decide (x11_5 < (t367.length : Int)) = true := decide_eq_true c47
                  clear c47
                  by_cases c48 : x8_4.length < 17592186044416
                  ·rw [if_pos c48] at H
                   have LMc48 := Aside0.mk c48
                   clear c48
                   obtain ⟨y389, hy389⟩ : ∃ y_ : List Int, y_ = (x8_4 ++ [rd t367 x11_5]) := ⟨_, rfl⟩
                   replace H : (galleyref22_Wrap.l2 k5 a1 (t370.length : Int) y389 x11_5 x10_12 t367 t370) = some (r1, r2) := by first | (rw [hy389]; with_reducible exact H) | (have H2_ := (Option.bind_some _ _).symm.trans H; rw [hy389]; with_reducible exact H2_) | (have H2_ := (Option.bind_some _ _).symm.trans H; with_reducible exact H2_) | with_reducible exact H | (rw [hy389]; exact H) | exact H
                   have Ny389 := Aside0.mk hy389
                   clear hy389
                   have H' := Aside0.mk H
                   clear H
                   have hcz49_0 : wr.cell? ⟨gb373, 0, none⟩ = some (.slice Ao9 t367.length co9) := (blk_cell BK373.out 0).trans rfl
                   have hcz49_1 : wr.cell? ⟨gb373, 1, none⟩ = some (.slice Ao11 t370.length co11) := (blk_cell BK373.out 1).trans rfl
                   have hfz49_0 := blk_frozen BK373.out 0
                   have hfz49_1 := blk_frozen BK373.out 1
                   have p388 : 0 ≤ (x11_5 : Int) := of_decide_eq_true (by first | (with_reducible assumption) | assumption)
                   have q388 : x11_5 < (t367.length : Int) := of_decide_eq_true (by first | (with_reducible assumption) | assumption)
                   obtain ⟨ad388, e388, hx388_0⟩ := Kd.at_int (Kd.R_reads' HO_374000.out).2.2 x11_5 p388 q388
                   cases e388
                   replace p388 := eq_true p388
                   replace q388 := eq_true q388
                   go_wp2_with (first | ((with_reducible refine gate_builtin (b := .append) (xs := #[.tmp 68, .tmp 74]) rfl ?_); at_builtin; refine Kd.R_append (Kd.int .i64) (w0 := w) w.heap.size rfl (.tmp 68) (.tmp 74) 69 3 (.int .i64 0) 8 rfl Tryd.underlying69 info3 rfl (by decide) (by omega) u8 x8_4 (rd t367 x11_5) [.int .i64 (rd t367 x11_5)] (fun k_ => some k_ ≠ (.slice (some ad388) t367.length co9 : Value).ownBlock ∧ some k_ ≠ (.slice Ao11 t370.length co11 : Value).ownBlock) (fun _ => False) rfl rfl ?aP (fun _ hk => hk.elim) ?aF ?aO ?aB ?aS ?aL ?_; (case aP => exact rfl); (case aB => exact (by repeat (first | (with_reducible first | exact HB.out | apply below_alloc | apply pw_below_drewN | apply below_drew1 | refine below_set ?_ GE373.out) | exact HB.out))); (case aF => exact (fun k_ hk => ⟨Kd.fresh' (Kd.R_lt (by (with_reducible repeat (first | apply Kd.R_alloc | apply Kd.R_drewN | apply Kd.R_drew)); exact HO_374000.out)) k_ hk, Kd.fresh' (Kd.R_lt (by (with_reducible repeat (first | apply Kd.R_alloc | apply Kd.R_drewN | apply Kd.R_drew)); exact HO_374001.out)) k_ hk⟩)); (case aO => exact (by (with_reducible repeat (first | apply Kd.R_alloc | apply Kd.R_drewN | apply Kd.R_drew)); exact HO_8.out)); (case aS => exact (below_size (by repeat (first | (with_reducible first | exact HB.out | apply below_alloc | apply pw_below_drewN | apply below_drew1 | refine below_set ?_ GE373.out) | exact HB.out)))); (case aL => have := LMc48.out; omega); intro v390 w50 ho hb hg hat; rw [← Ny389.out] at ho; have n0_ := Aside0.mk (Kd.R_after (ok := (fun k_ => some k_ ≠ (.slice Ao11 t370.length co11 : Value).ownBlock)) (by (with_reducible repeat (first | apply Kd.R_alloc | apply Kd.R_drewN | apply Kd.R_drew)); exact Kd.R_mono HO_374000.out (fun _ hk => ⟨hk.2, hk.1⟩)) hg hat); have n1_ := Aside0.mk (Kd.R_after (ok := (fun k_ => some k_ ≠ (.slice (some ad388) t367.length co9 : Value).ownBlock)) (by (with_reducible repeat (first | apply Kd.R_alloc | apply Kd.R_drewN | apply Kd.R_drew)); exact Kd.R_mono HO_374001.out (fun _ hk => ⟨hk.2, hk.1⟩)) hg hat); have n2_ := Aside0.mk (blk_grown (g := gb373) (o := .cells #[.slice (some ad388) t367.length co9, .slice Ao11 t370.length co11] 96 (0, 0)) (by (with_reducible repeat (first | refine blk_drewN ?_ _ | refine blk_drew ?_ | refine blk_alloc ?_ _)); exact BK373.out) hg (Kd.R_ne HO_8.out BK373.out (by decide))); have n3_ := Aside0.mk (hb); have n4_ := Aside0.mk (ho); clear HO_374000; clear HO_374001; clear BK373; clear HB; clear HO_8; have HO_374000 := n0_; have HO_374001 := n1_; have BK373 := n2_; have HB := n3_; have HO391 := n4_; clear n0_ n1_ n2_ n3_ n4_; clear ho hb hg hat))
                   go_roundg k5
                   case measure => have := HJ2.out; have := HK2.out; have := HJ12.out; have := HK4.out; have := HK5.out; omega
                   case rel => exact ⟨(y389), (x11_5), (by first | rfl | (simp; done) | (simp [*]; done)), H', ⟨by have := HJ2.out; have := HK2.out; have := HJ12.out; have := HK4.out; have := HK5.out; omega⟩, ⟨by (with_reducible repeat (first | apply Kd.R_alloc | apply Kd.R_drewN | apply Kd.R_drew)); exact HO391.out⟩, ⟨by (with_reducible repeat (first | apply Kd.R_alloc | apply Kd.R_drewN | apply Kd.R_drew)); exact Kd.R_mono HO_374000.out (fun _ hk => ⟨hk.2, hk.1⟩)⟩, ⟨by (with_reducible repeat (first | apply Kd.R_alloc | apply Kd.R_drewN | apply Kd.R_drew)); exact Kd.R_mono HO_374001.out (fun _ hk => ⟨hk.2, hk.1⟩)⟩, ⟨by (with_reducible repeat (first | refine blk_drewN ?_ _ | refine blk_drew ?_ | refine blk_alloc ?_ _)); exact BK373.out⟩, ⟨by repeat (first | (with_reducible first | exact HB.out | apply below_alloc | apply pw_below_drewN | apply below_drew1 | refine below_set ?_ GE373.out) | exact HB.out)⟩⟩
                  ·rw [if_neg c48] at H
                   exact absurd H (by simp)
                 ·rw [if_neg c47] at H
                  exact absurd H (by simp)
                ·rw [if_neg c46] at H
                 exact absurd H (by simp)
           ·rw [if_neg c20] at H
            have c20b0 : decide (a1 < (wrap64 (x10_12 - x9_4))) = false := decide_eq_false c20
            clear c20
            have H' := Aside0.mk H
            clear H
            go_wp2
            go_roundg k4
            case measure => have := HJ2.out; have := HK2.out; have := HJ12.out; have := HK4.out; omega
            case rel => exact ⟨(x8_4), (wrap64 (x10_12 + 1)), (by first | rfl | (simp; done) | (simp [*]; done)), H', ⟨by have := HJ2.out; have := HK2.out; have := HJ12.out; have := HK4.out; omega⟩, ⟨by (with_reducible repeat (first | apply Kd.R_alloc | apply Kd.R_drewN | apply Kd.R_drew)); exact HO_8.out⟩, ⟨by (with_reducible repeat (first | apply Kd.R_alloc | apply Kd.R_drewN | apply Kd.R_drew)); exact HO_374000.out⟩, ⟨by (with_reducible repeat (first | apply Kd.R_alloc | apply Kd.R_drewN | apply Kd.R_drew)); exact HO_374001.out⟩, ⟨by (with_reducible repeat (first | refine blk_drewN ?_ _ | refine blk_drew ?_ | refine blk_alloc ?_ _)); exact BK373.out⟩, ⟨by repeat (first | (with_reducible first | exact HB.out | apply below_alloc | apply pw_below_drewN | apply below_drew1 | refine below_set ?_ GE373.out) | exact HB.out)⟩⟩
      ·rw [if_neg c12] at H
       have c12b0 : decide (x9_2 < (t370.length : Int)) = false := decide_eq_false c12
       clear c12
       simp only [Option.some.injEq, Prod.mk.injEq] at H
       obtain ⟨rfl, rfl⟩ := H
       go_wp2
       go_ret2
       exact ⟨_, by first | rfl | (simp [errW_none, errW_some] <;> rfl) | (simp [*, errW_none, errW_some] <;> rfl), by (with_reducible repeat (first | apply Kd.R_alloc | apply Kd.R_drewN | apply Kd.R_drew)); exact Kd.R_mono HO_8.out (fun _ hk => trivial), by repeat (first | (with_reducible first | exact HB.out | apply below_alloc | apply pw_below_drewN | apply below_drew1 | refine below_set ?_ GE373.out) | exact HB.out)⟩

end Go.Proofs.YtijbkiajhicooaaDoor.PW

namespace Go.Proofs.YtijbkiajhicooaaDoor.PW
open Go.RowKit Go.Proofs.YtijbkiajhicooaaDoorW.PrintWords Go.Proofs.YtijbkiajhicooaaDoorW.PrintLast Go.Proofs.YtijbkiajhicooaaDoorW.PrintMore
attribute [local go_sem] max2_int min2_int max_two min_two max_three min_three max_four min_four   -- for this text's walks alone
set_option linter.unusedVariables false
set_option linter.unusedSimpArgs false

def galleylaw22_WordsWraps.f (k : Nat) (l0 : List Int) (a1 : Int) : Option (Bool) := (galleylaw22_wakes.f).bind fun t392 => (if t392 = true then ((galleylaw22_own.f l0).bind fun t393 => ((words_Wrap.f k t393 a1).bind fun bt396 => ((galleyref22_Wrap.f k l0 a1).bind fun bt400 => ((galleyref01_SameInts.f k bt396.1 bt400.1).bind fun t404 => (if t404 = true then (some (bt396.2 == bt400.2)) else (some false)))))) else (some false))
set_option maxHeartbeats 8000000 in
set_option maxRecDepth 100000 in
theorem galleylaw22_WordsWraps.calls (k : Nat) (A0 : Option Addr) (c0 : Nat) (l0 : List Int) (a1 : Int) (r : Bool) (w : World) (hr0 : Kd.C (Kd.int .u8) w A0 l0.length l0) (hc0 : l0.length ≤ c0) (hL : LaidBad w) (h : galleylaw22_WordsWraps.f k l0 a1 = some r) :
  Calls Tryd.prog 9 #[.slice A0 l0.length c0, .int .i64 a1] w fun e w' => e = .returned (.bool r) ∧ Below w.heap.size w w' := by
 have HR0 := Aside0.mk hr0
 have HC0 := Aside0.mk hc0
 clear hr0 hc0
 have HB := Aside0.mk (Below.refl w.heap.size w)
 have HLB := Aside0.mk hL
 clear hL
 have H : ((galleylaw22_wakes.f).bind fun t392 => (if t392 = true then ((galleylaw22_own.f l0).bind fun t393 => ((words_Wrap.f k t393 a1).bind fun bt396 => ((galleyref22_Wrap.f k l0 a1).bind fun bt400 => ((galleyref01_SameInts.f k bt396.1 bt400.1).bind fun t404 => (if t404 = true then (some (bt396.2 == bt400.2)) else (some false)))))) else (some false))) = some r := h
 clear h
 replace H := Option.bind_eq_some_iff.mp H
 obtain ⟨t392, A30, H⟩ := H
 replace H : (if t392 = true then ((galleylaw22_own.f l0).bind fun t393 => ((words_Wrap.f k t393 a1).bind fun bt396 => ((galleyref22_Wrap.f k l0 a1).bind fun bt400 => ((galleyref01_SameInts.f k bt396.1 bt400.1).bind fun t404 => (if t404 = true then (some (bt396.2 == bt400.2)) else (some false)))))) else (some false)) = some r := H
 have A3 := Aside0.mk A30
 clear A30
 by_cases c4 : t392 = true
 ·subst c4
  have H1 : ((galleylaw22_own.f l0).bind fun t393 => ((words_Wrap.f k t393 a1).bind fun bt396 => ((galleyref22_Wrap.f k l0 a1).bind fun bt400 => ((galleyref01_SameInts.f k bt396.1 bt400.1).bind fun t404 => (if t404 = true then (some (bt396.2 == bt400.2)) else (some false)))))) = some r := by rw [if_pos rfl] at H; exact H
  clear H
  have H := H1
  clear H1
  replace H := Option.bind_eq_some_iff.mp H
  obtain ⟨t393, A50, H⟩ := H
  replace H : ((words_Wrap.f k t393 a1).bind fun bt396 => ((galleyref22_Wrap.f k l0 a1).bind fun bt400 => ((galleyref01_SameInts.f k bt396.1 bt400.1).bind fun t404 => (if t404 = true then (some (bt396.2 == bt400.2)) else (some false))))) = some r := H
  have A5 := Aside0.mk A50
  clear A50
  replace H := Option.bind_eq_some_iff.mp H
  obtain ⟨⟨t396, t397⟩, A60, H⟩ := H
  replace H : ((galleyref22_Wrap.f k l0 a1).bind fun bt400 => ((galleyref01_SameInts.f k t396 bt400.1).bind fun t404 => (if t404 = true then (some (t397 == bt400.2)) else (some false)))) = some r := H
  have A6 := Aside0.mk A60
  clear A60
  replace H := Option.bind_eq_some_iff.mp H
  obtain ⟨⟨t400, t401⟩, A70, H⟩ := H
  replace H : ((galleyref01_SameInts.f k t396 t400).bind fun t404 => (if t404 = true then (some (t397 == t401)) else (some false))) = some r := H
  have A7 := Aside0.mk A70
  clear A70
  replace H := Option.bind_eq_some_iff.mp H
  obtain ⟨t404, A80, H⟩ := H
  replace H : (if t404 = true then (some (t397 == t401)) else (some false)) = some r := H
  have A8 := Aside0.mk A80
  clear A80
  by_cases c9 : t404 = true
  ·subst c9
   have H1 : (some (t397 == t401)) = some r := by rw [if_pos rfl] at H; exact H
   clear H
   have H := H1
   clear H1
   obtain rfl := Option.some.inj H
   go_enter Tryd.func9, Tryd.ntmps9
   go_wp2_with (first | ((with_reducible refine gate_callee (f := 13) rfl ?_); refine goesL_ (some 9) rfl rfl Tryd.func13 (by kernel_rfl) rfl #[] rfl (by (try simp only [List.map_toArray, List.map_cons, List.map_nil]); first | done | rfl | (simp only [List.length_drop, List.length_take]; rfl)) ?_; (with_reducible refine (galleylaw22_wakes.calls  true _ ?side1 A3.out).mono ?_); (case side1 => exact laid_below HLB.out (by repeat (first | (with_reducible first | exact HB.out | apply below_alloc | apply pw_below_drewN | apply below_drew1) | exact HB.out))); rintro e w10 ⟨rfl, hb⟩; refine ⟨_, rfl, ?_⟩; have n0_ := Aside0.mk (below_step (by repeat (first | (with_reducible first | exact HB.out | apply below_alloc | apply pw_below_drewN | apply below_drew1) | exact HB.out)) hb); clear HB; have HB := n0_; clear n0_; (try clear hb); (try clear hb2); (try clear hk); (try clear hi)) | ((with_reducible refine gate_callee (f := 18) rfl ?_); refine goesL_ (some 13) rfl rfl Tryd.func18 (by kernel_rfl) rfl #[.slice A0 l0.length c0] rfl (by (try simp only [List.map_toArray, List.map_cons, List.map_nil]); first | done | rfl | (simp only [List.length_drop, List.length_take]; rfl)) ?_; (with_reducible refine (galleylaw22_own.calls _ _ l0 t393 _ ?side1 ?side2 A5.out).mono ?_); (case side1 => repeat (first | exact (Kd.C_below HR0.out HB.out) | (with_reducible refine Kd.C_alloc ?_ _) | (with_reducible refine Kd.C_drewN ?_ _) | (with_reducible refine Kd.C_drew ?_))); (case side2 => exact HC0.out); rintro e w11 ⟨v394, rfl, ho0, hb⟩; refine ⟨_, rfl, ?_⟩; have n0_ := Aside0.mk (Kd.R_lower ho0 (below_size (by repeat (first | (with_reducible first | exact HB.out | apply below_alloc | apply pw_below_drewN | apply below_drew1) | exact HB.out)))); have n1_ := Aside0.mk (below_step (by repeat (first | (with_reducible first | exact HB.out | apply below_alloc | apply pw_below_drewN | apply below_drew1) | exact HB.out)) hb); clear HB; have HO395 := n0_; have HB := n1_; clear n0_ n1_; (try clear hb); (try clear hb2); (try clear hk); (try clear hi); (try clear ho0); obtain ⟨Ao12, co12, eo12⟩ := Kd.R_slice HO395.out; subst eo12) | ((with_reducible refine gate_callee (f := 36) rfl ?_); refine goesL_ (some 15) rfl rfl Tryd.func36 (by kernel_rfl) rfl #[.slice Ao12 t393.length co12, .int .i64 a1] rfl (by (try simp only [List.map_toArray, List.map_cons, List.map_nil]); first | done | rfl | (simp only [List.length_drop, List.length_take]; rfl)) ?_; (with_reducible refine (words_Wrap.calls k _ _ t393 a1 t396 t397 _ ?side1 ?side2 ?side3 A6.out).mono ?_); (case side1 => repeat (first | exact (Kd.R_reads' HO395.out).2.2 | (with_reducible refine Kd.C_alloc ?_ _) | (with_reducible refine Kd.C_drewN ?_ _) | (with_reducible refine Kd.C_drew ?_))); (case side2 => exact (Kd.R_reads' HO395.out).2.1); (case side3 => exact laid_below HLB.out (by repeat (first | (with_reducible first | exact HB.out | apply below_alloc | apply pw_below_drewN | apply below_drew1) | exact HB.out))); rintro e w13 ⟨v398, rfl, ho0, hb⟩; refine ⟨_, rfl, ?_⟩; have n0_ := Aside0.mk (Kd.R_below (by (with_reducible repeat (first | apply Kd.R_alloc | apply Kd.R_drewN | apply Kd.R_drew)); exact HO395.out) hb); have n1_ := Aside0.mk (Kd.R_lower ho0 (below_size (by repeat (first | (with_reducible first | exact HB.out | apply below_alloc | apply pw_below_drewN | apply below_drew1) | exact HB.out)))); have n2_ := Aside0.mk (below_step (by repeat (first | (with_reducible first | exact HB.out | apply below_alloc | apply pw_below_drewN | apply below_drew1) | exact HB.out)) hb); clear HO395; clear HB; have HO395 := n0_; have HO399 := n1_; have HB := n2_; clear n0_ n1_ n2_; (try clear hb); (try clear hb2); (try clear hk); (try clear hi); (try clear ho0)) | ((with_reducible refine gate_callee (f := 37) rfl ?_); refine goesL_ (some 21) rfl rfl Tryd.func37 (by kernel_rfl) rfl #[.slice A0 l0.length c0, .int .i64 a1] rfl (by (try simp only [List.map_toArray, List.map_cons, List.map_nil]); first | done | rfl | (simp only [List.length_drop, List.length_take]; rfl)) ?_; (with_reducible refine (galleyref22_Wrap.calls k _ _ l0 a1 t400 t401 _ ?side1 ?side2 A7.out).mono ?_); (case side1 => repeat (first | exact (Kd.C_below HR0.out HB.out) | (with_reducible refine Kd.C_alloc ?_ _) | (with_reducible refine Kd.C_drewN ?_ _) | (with_reducible refine Kd.C_drew ?_))); (case side2 => exact HC0.out); rintro e w14 ⟨v402, rfl, ho0, hb⟩; refine ⟨_, rfl, ?_⟩; have n0_ := Aside0.mk (Kd.R_below (by (with_reducible repeat (first | apply Kd.R_alloc | apply Kd.R_drewN | apply Kd.R_drew)); exact HO395.out) hb); have n1_ := Aside0.mk (Kd.R_elder' (by (with_reducible repeat (first | apply Kd.R_alloc | apply Kd.R_drewN | apply Kd.R_drew)); exact HO399.out) (Kd.R_base ho0) hb); have n2_ := Aside0.mk (Kd.R_lower (Kd.R_new' ho0 (Kd.R_lt (by (with_reducible repeat (first | apply Kd.R_alloc | apply Kd.R_drewN | apply Kd.R_drew)); exact HO399.out))) (below_size (by repeat (first | (with_reducible first | exact HB.out | apply below_alloc | apply pw_below_drewN | apply below_drew1) | exact HB.out)))); have n3_ := Aside0.mk (below_step (by repeat (first | (with_reducible first | exact HB.out | apply below_alloc | apply pw_below_drewN | apply below_drew1) | exact HB.out)) hb); clear HO395; clear HO399; clear HB; have HO395 := n0_; have HO399 := n1_; have HO403 := n2_; have HB := n3_; clear n0_ n1_ n2_ n3_; (try clear hb); (try clear hb2); (try clear hk); (try clear hi); (try clear ho0); obtain ⟨Ao15, co15, eo15⟩ := Kd.R_slice HO399.out; subst eo15; obtain ⟨Ao16, co16, eo16⟩ := Kd.R_slice HO403.out; subst eo16) | ((with_reducible refine gate_callee (f := 38) rfl ?_); refine goesL_ (some 26) rfl rfl Tryd.func38 (by kernel_rfl) rfl #[.slice Ao15 t396.length co15, .slice Ao16 t400.length co16] rfl (by (try simp only [List.map_toArray, List.map_cons, List.map_nil]); first | done | rfl | (simp only [List.length_drop, List.length_take]; rfl)) ?_; (with_reducible refine (galleyref01_SameInts.calls k _ _ t396 _ _ t400 true _ ?side1 ?side2 ?side3 ?side4 A8.out).mono ?_); (case side1 => repeat (first | exact (Kd.R_reads' HO399.out).2.2 | (with_reducible refine Kd.C_alloc ?_ _) | (with_reducible refine Kd.C_drewN ?_ _) | (with_reducible refine Kd.C_drew ?_))); (case side2 => exact (Kd.R_reads' HO399.out).2.1); (case side3 => repeat (first | exact (Kd.R_reads' HO403.out).2.2 | (with_reducible refine Kd.C_alloc ?_ _) | (with_reducible refine Kd.C_drewN ?_ _) | (with_reducible refine Kd.C_drew ?_))); (case side4 => exact (Kd.R_reads' HO403.out).2.1); rintro e w' ⟨rfl, ⟨nd, rfl⟩⟩; refine ⟨_, rfl, ?_⟩))
   go_ret
   exact ⟨by first | rfl | (simp [errW_none, errW_some] <;> rfl) | (simp [*, errW_none, errW_some] <;> rfl), by repeat (first | (with_reducible first | exact HB.out | apply below_alloc | apply pw_below_drewN | apply below_drew1) | exact HB.out)⟩
  ·replace c9 := Bool.eq_false_iff.mpr c9
   subst c9
   have H1 : (some false) = some r := by rw [if_neg (show ¬ (false = true) by decide)] at H; exact H
   clear H
   have H := H1
   clear H1
   obtain rfl := Option.some.inj H
   go_enter Tryd.func9, Tryd.ntmps9
   go_wp2_with (first | ((with_reducible refine gate_callee (f := 13) rfl ?_); refine goesL_ (some 9) rfl rfl Tryd.func13 (by kernel_rfl) rfl #[] rfl (by (try simp only [List.map_toArray, List.map_cons, List.map_nil]); first | done | rfl | (simp only [List.length_drop, List.length_take]; rfl)) ?_; (with_reducible refine (galleylaw22_wakes.calls  true _ ?side1 A3.out).mono ?_); (case side1 => exact laid_below HLB.out (by repeat (first | (with_reducible first | exact HB.out | apply below_alloc | apply pw_below_drewN | apply below_drew1) | exact HB.out))); rintro e w17 ⟨rfl, hb⟩; refine ⟨_, rfl, ?_⟩; have n0_ := Aside0.mk (below_step (by repeat (first | (with_reducible first | exact HB.out | apply below_alloc | apply pw_below_drewN | apply below_drew1) | exact HB.out)) hb); clear HB; have HB := n0_; clear n0_; (try clear hb); (try clear hb2); (try clear hk); (try clear hi)) | ((with_reducible refine gate_callee (f := 18) rfl ?_); refine goesL_ (some 13) rfl rfl Tryd.func18 (by kernel_rfl) rfl #[.slice A0 l0.length c0] rfl (by (try simp only [List.map_toArray, List.map_cons, List.map_nil]); first | done | rfl | (simp only [List.length_drop, List.length_take]; rfl)) ?_; (with_reducible refine (galleylaw22_own.calls _ _ l0 t393 _ ?side1 ?side2 A5.out).mono ?_); (case side1 => repeat (first | exact (Kd.C_below HR0.out HB.out) | (with_reducible refine Kd.C_alloc ?_ _) | (with_reducible refine Kd.C_drewN ?_ _) | (with_reducible refine Kd.C_drew ?_))); (case side2 => exact HC0.out); rintro e w18 ⟨v394, rfl, ho0, hb⟩; refine ⟨_, rfl, ?_⟩; have n0_ := Aside0.mk (Kd.R_lower ho0 (below_size (by repeat (first | (with_reducible first | exact HB.out | apply below_alloc | apply pw_below_drewN | apply below_drew1) | exact HB.out)))); have n1_ := Aside0.mk (below_step (by repeat (first | (with_reducible first | exact HB.out | apply below_alloc | apply pw_below_drewN | apply below_drew1) | exact HB.out)) hb); clear HB; have HO395 := n0_; have HB := n1_; clear n0_ n1_; (try clear hb); (try clear hb2); (try clear hk); (try clear hi); (try clear ho0); obtain ⟨Ao19, co19, eo19⟩ := Kd.R_slice HO395.out; subst eo19) | ((with_reducible refine gate_callee (f := 36) rfl ?_); refine goesL_ (some 15) rfl rfl Tryd.func36 (by kernel_rfl) rfl #[.slice Ao19 t393.length co19, .int .i64 a1] rfl (by (try simp only [List.map_toArray, List.map_cons, List.map_nil]); first | done | rfl | (simp only [List.length_drop, List.length_take]; rfl)) ?_; (with_reducible refine (words_Wrap.calls k _ _ t393 a1 t396 t397 _ ?side1 ?side2 ?side3 A6.out).mono ?_); (case side1 => repeat (first | exact (Kd.R_reads' HO395.out).2.2 | (with_reducible refine Kd.C_alloc ?_ _) | (with_reducible refine Kd.C_drewN ?_ _) | (with_reducible refine Kd.C_drew ?_))); (case side2 => exact (Kd.R_reads' HO395.out).2.1); (case side3 => exact laid_below HLB.out (by repeat (first | (with_reducible first | exact HB.out | apply below_alloc | apply pw_below_drewN | apply below_drew1) | exact HB.out))); rintro e w20 ⟨v398, rfl, ho0, hb⟩; refine ⟨_, rfl, ?_⟩; have n0_ := Aside0.mk (Kd.R_below (by (with_reducible repeat (first | apply Kd.R_alloc | apply Kd.R_drewN | apply Kd.R_drew)); exact HO395.out) hb); have n1_ := Aside0.mk (Kd.R_lower ho0 (below_size (by repeat (first | (with_reducible first | exact HB.out | apply below_alloc | apply pw_below_drewN | apply below_drew1) | exact HB.out)))); have n2_ := Aside0.mk (below_step (by repeat (first | (with_reducible first | exact HB.out | apply below_alloc | apply pw_below_drewN | apply below_drew1) | exact HB.out)) hb); clear HO395; clear HB; have HO395 := n0_; have HO399 := n1_; have HB := n2_; clear n0_ n1_ n2_; (try clear hb); (try clear hb2); (try clear hk); (try clear hi); (try clear ho0)) | ((with_reducible refine gate_callee (f := 37) rfl ?_); refine goesL_ (some 21) rfl rfl Tryd.func37 (by kernel_rfl) rfl #[.slice A0 l0.length c0, .int .i64 a1] rfl (by (try simp only [List.map_toArray, List.map_cons, List.map_nil]); first | done | rfl | (simp only [List.length_drop, List.length_take]; rfl)) ?_; (with_reducible refine (galleyref22_Wrap.calls k _ _ l0 a1 t400 t401 _ ?side1 ?side2 A7.out).mono ?_); (case side1 => repeat (first | exact (Kd.C_below HR0.out HB.out) | (with_reducible refine Kd.C_alloc ?_ _) | (with_reducible refine Kd.C_drewN ?_ _) | (with_reducible refine Kd.C_drew ?_))); (case side2 => exact HC0.out); rintro e w21 ⟨v402, rfl, ho0, hb⟩; refine ⟨_, rfl, ?_⟩; have n0_ := Aside0.mk (Kd.R_below (by (with_reducible repeat (first | apply Kd.R_alloc | apply Kd.R_drewN | apply Kd.R_drew)); exact HO395.out) hb); have n1_ := Aside0.mk (Kd.R_elder' (by (with_reducible repeat (first | apply Kd.R_alloc | apply Kd.R_drewN | apply Kd.R_drew)); exact HO399.out) (Kd.R_base ho0) hb); have n2_ := Aside0.mk (Kd.R_lower (Kd.R_new' ho0 (Kd.R_lt (by (with_reducible repeat (first | apply Kd.R_alloc | apply Kd.R_drewN | apply Kd.R_drew)); exact HO399.out))) (below_size (by repeat (first | (with_reducible first | exact HB.out | apply below_alloc | apply pw_below_drewN | apply below_drew1) | exact HB.out)))); have n3_ := Aside0.mk (below_step (by repeat (first | (with_reducible first | exact HB.out | apply below_alloc | apply pw_below_drewN | apply below_drew1) | exact HB.out)) hb); clear HO395; clear HO399; clear HB; have HO395 := n0_; have HO399 := n1_; have HO403 := n2_; have HB := n3_; clear n0_ n1_ n2_ n3_; (try clear hb); (try clear hb2); (try clear hk); (try clear hi); (try clear ho0); obtain ⟨Ao22, co22, eo22⟩ := Kd.R_slice HO399.out; subst eo22; obtain ⟨Ao23, co23, eo23⟩ := Kd.R_slice HO403.out; subst eo23) | ((with_reducible refine gate_callee (f := 38) rfl ?_); refine goesL_ (some 26) rfl rfl Tryd.func38 (by kernel_rfl) rfl #[.slice Ao22 t396.length co22, .slice Ao23 t400.length co23] rfl (by (try simp only [List.map_toArray, List.map_cons, List.map_nil]); first | done | rfl | (simp only [List.length_drop, List.length_take]; rfl)) ?_; (with_reducible refine (galleyref01_SameInts.calls k _ _ t396 _ _ t400 false _ ?side1 ?side2 ?side3 ?side4 A8.out).mono ?_); (case side1 => repeat (first | exact (Kd.R_reads' HO399.out).2.2 | (with_reducible refine Kd.C_alloc ?_ _) | (with_reducible refine Kd.C_drewN ?_ _) | (with_reducible refine Kd.C_drew ?_))); (case side2 => exact (Kd.R_reads' HO399.out).2.1); (case side3 => repeat (first | exact (Kd.R_reads' HO403.out).2.2 | (with_reducible refine Kd.C_alloc ?_ _) | (with_reducible refine Kd.C_drewN ?_ _) | (with_reducible refine Kd.C_drew ?_))); (case side4 => exact (Kd.R_reads' HO403.out).2.1); rintro e w' ⟨rfl, ⟨nd, rfl⟩⟩; refine ⟨_, rfl, ?_⟩))
   go_ret
   exact ⟨by first | rfl | (simp [errW_none, errW_some] <;> rfl) | (simp [*, errW_none, errW_some] <;> rfl), by repeat (first | (with_reducible first | exact HB.out | apply below_alloc | apply pw_below_drewN | apply below_drew1) | exact HB.out)⟩
 ·replace c4 := Bool.eq_false_iff.mpr c4
  subst c4
  have H1 : (some false) = some r := by rw [if_neg (show ¬ (false = true) by decide)] at H; exact H
  clear H
  have H := H1
  clear H1
  obtain rfl := Option.some.inj H
  go_enter Tryd.func9, Tryd.ntmps9
  go_wp2_with (first | ((with_reducible refine gate_callee (f := 13) rfl ?_); refine goesL_ (some 9) rfl rfl Tryd.func13 (by kernel_rfl) rfl #[] rfl (by (try simp only [List.map_toArray, List.map_cons, List.map_nil]); first | done | rfl | (simp only [List.length_drop, List.length_take]; rfl)) ?_; (with_reducible refine (galleylaw22_wakes.calls  false _ ?side1 A3.out).mono ?_); (case side1 => exact laid_below HLB.out (by repeat (first | (with_reducible first | exact HB.out | apply below_alloc | apply pw_below_drewN | apply below_drew1) | exact HB.out))); rintro e w24 ⟨rfl, hb⟩; refine ⟨_, rfl, ?_⟩; have n0_ := Aside0.mk (below_step (by repeat (first | (with_reducible first | exact HB.out | apply below_alloc | apply pw_below_drewN | apply below_drew1) | exact HB.out)) hb); clear HB; have HB := n0_; clear n0_; (try clear hb); (try clear hb2); (try clear hk); (try clear hi)))
  go_ret
  exact ⟨by first | rfl | (simp [errW_none, errW_some] <;> rfl) | (simp [*, errW_none, errW_some] <;> rfl), by repeat (first | (with_reducible first | exact HB.out | apply below_alloc | apply pw_below_drewN | apply below_drew1) | exact HB.out)⟩

end Go.Proofs.YtijbkiajhicooaaDoor.PW

namespace Go.Proofs.YtijbkiajhicooaaDoor.PW
open Go.RowKit Go.Proofs.YtijbkiajhicooaaDoorW.PrintWords Go.Proofs.YtijbkiajhicooaaDoorW.PrintLast Go.Proofs.YtijbkiajhicooaaDoorW.PrintMore
attribute [local go_sem] max2_int min2_int max_two min_two max_three min_three max_four min_four   -- for this text's walks alone
set_option linter.unusedVariables false
set_option linter.unusedSimpArgs false

def Bytes (l : List Int) : Prop := ∀ x ∈ l, 0 ≤ x ∧ x ≤ 255
theorem bytes_of_wf {l : List Int} (h : ∀ x ∈ l, (Lit.int .u8 x).wf = true) : Bytes l := fun x hx => by
 have := h x hx
 simp [Lit.wf] at this
 exact ⟨this.1, this.2⟩
theorem Bytes.drop {l : List Int} (h : Bytes l) (n : Nat) : Bytes (l.drop n) := fun x hx => h x (List.mem_of_mem_drop hx)
theorem rd_byte {l : List Int} (h : Bytes l) (p : Int) : 0 ≤ rd l p ∧ rd l p ≤ 255 := by
 unfold rd
 rw [List.getD_eq_getElem?_getD]
 cases hg : l[p.toNat]? with
 | none => exact ⟨Int.le_refl _, by decide⟩
 | some x => exact h x (List.mem_of_getElem? hg)
theorem wrap64_small {n : Int} (h0 : -9223372036854775808 ≤ n) (h1 : n ≤ 9223372036854775807) : wrap64 n = n := by unfold wrap64; omega
theorem atI_in {l : List Int} (hb : Bytes l) (p : Nat) (h : p < l.length) : atI l (p : Int) = l.getD p 0 ∧ 0 ≤ l.getD p 0 ∧ l.getD p 0 ≤ 255 := by
 have h1 := rd_byte hb (p : Int)
 have e : rd l (p : Int) = l.getD p 0 := by unfold rd; simp
 rw [e] at h1
 unfold atI
 rw [if_neg (by omega), e, wrap64_small (by omega) (by omega)]
 exact ⟨rfl, h1⟩
theorem atI_out (l : List Int) (p : Int) (h : p < 0 ∨ (l.length : Int) ≤ p) : atI l p = -1 := by
 unfold atI
 rw [if_pos (by omega)]
/-- The byte that decoding reads. -/
theorem getB {l : List Int} (hb : Bytes l) (p : Nat) (h : p < l.length) : (((strOfNums l).get! p).toNat : Int) = atI l (p : Int) := by
 obtain ⟨e, h0, h1⟩ := atI_in hb p h
 rw [e]
 have hg : l.getD p 0 = l[p] := by simp [List.getD, h]
 have : (strOfNums l).get! p = UInt8.ofNat (l[p]).toNat := by
  simp [ByteArray.get!, strOfNums, getElem!_def, h]
 rw [this, hg]
 rw [hg] at h0 h1
 simp
 omega
/-- Decoding, by the bytes at the place and behind it (-1: none). -/
def decV (x y z w : Int) : Int × Nat :=
 if x < 128 then (x, 1)
 else if x / 32 = 6 ∧ y / 64 = 2 then (if x % 32 * 64 + y % 64 ≥ 128 then (x % 32 * 64 + y % 64, 2) else (65533, 1))
 else if x / 16 = 14 ∧ y / 64 = 2 ∧ z / 64 = 2 then
  (if x % 16 * 4096 + y % 64 * 64 + z % 64 ≥ 2048 ∧ ¬ (55296 ≤ x % 16 * 4096 + y % 64 * 64 + z % 64 ∧ x % 16 * 4096 + y % 64 * 64 + z % 64 < 57344) then (x % 16 * 4096 + y % 64 * 64 + z % 64, 3) else (65533, 1))
 else if x / 8 = 30 ∧ y / 64 = 2 ∧ z / 64 = 2 ∧ w / 64 = 2 then
  (if x % 8 * 262144 + y % 64 * 4096 + z % 64 * 64 + w % 64 ≥ 65536 ∧ x % 8 * 262144 + y % 64 * 4096 + z % 64 * 64 + w % 64 ≤ 1114111 then (x % 8 * 262144 + y % 64 * 4096 + z % 64 * 64 + w % 64, 4) else (65533, 1))
 else (65533, 1)
theorem contB {l : List Int} (hb : Bytes l) (p : Nat) : (decide (p < (strOfNums l).size) && ((strOfNums l).get! p).toNat / 64 == 2) = decide (atI l (p : Int) / 64 = 2) := by
 rw [strOfNums_size]
 by_cases h : p < l.length
 ·have e := getB hb p h
  rw [decide_eq_true h, Bool.true_and, ← e]
  have : ((((strOfNums l).get! p).toNat : Int) / 64 = 2) ↔ (((strOfNums l).get! p).toNat / 64 = 2) := by omega
  rw [Bool.eq_iff_iff]
  simp only [beq_iff_eq, decide_eq_true_eq]
  exact this.symm
 ·rw [decide_eq_false h, Bool.false_and, atI_out l _ (by omega)]
  rfl
set_option maxRecDepth 100000 in
set_option maxHeartbeats 400000 in
theorem decode_int {l : List Int} (hb : Bytes l) (p : Nat) (h : p < l.length) :
  (((Utf8.decode (strOfNums l) p).1 : Int), (Utf8.decode (strOfNums l) p).2) = decV (atI l (p : Int)) (atI l (p + 1 : Nat)) (atI l (p + 2 : Nat)) (atI l (p + 3 : Nat)) := by
 have e0 := getB hb p h
 obtain ⟨_, x0, x1⟩ := atI_in hb p h
 rw [← (atI_in hb p h).1] at x0 x1
 have c1 := contB hb (p + 1)
 have c2 := contB hb (p + 2)
 have c3 := contB hb (p + 3)
 have ey : ∀ q, atI l (q : Nat) / 64 = 2 → (((strOfNums l).get! q).toNat : Int) = atI l (q : Nat) := fun q hq => by
  by_cases hl : q < l.length
  ·exact getB hb q hl
  ·rw [atI_out l _ (by omega)] at hq
   omega
 have e1 := ey (p + 1)
 have e2 := ey (p + 2)
 have e3 := ey (p + 3)
 unfold Utf8.decode decV
 simp only [Nat.add_zero]
 rw [c1, c2, c3]
 clear c1 c2 c3 ey
 obtain ⟨x, hx⟩ : ∃ x, atI l (p : Int) = x := ⟨_, rfl⟩
 obtain ⟨y, hy⟩ : ∃ x, atI l (p + 1 : Nat) = x := ⟨_, rfl⟩
 obtain ⟨z, hz⟩ : ∃ x, atI l (p + 2 : Nat) = x := ⟨_, rfl⟩
 obtain ⟨v, hv⟩ : ∃ x, atI l (p + 3 : Nat) = x := ⟨_, rfl⟩
 obtain ⟨b0, hb0⟩ : ∃ b, ((strOfNums l).get! p).toNat = b := ⟨_, rfl⟩
 obtain ⟨b1, hb1⟩ : ∃ b, ((strOfNums l).get! (p + 1)).toNat = b := ⟨_, rfl⟩
 obtain ⟨b2, hb2⟩ : ∃ b, ((strOfNums l).get! (p + 2)).toNat = b := ⟨_, rfl⟩
 obtain ⟨b3, hb3⟩ : ∃ b, ((strOfNums l).get! (p + 3)).toNat = b := ⟨_, rfl⟩
 rw [hx] at x0 x1 e0
 rw [hy] at e1
 rw [hz] at e2
 rw [hv] at e3
 rw [hb0] at e0
 rw [hb1] at e1
 rw [hb2] at e2
 rw [hb3] at e3
 simp only [hx, hy, hz, hv, hb0, hb1, hb2, hb3]
 clear hx hy hz hv hb0 hb1 hb2 hb3
 by_cases h0 : b0 < 128
 ·rw [if_pos h0, if_pos (by omega)]
  simp [e0]
 rw [if_neg h0, if_neg (show ¬ x < 128 by omega)]
 by_cases h1 : x / 32 = 6 ∧ y / 64 = 2
 ·have g1 := e1 h1.2
  rw [if_pos h1, if_pos (by simp; omega)]
  by_cases h2 : x % 32 * 64 + y % 64 ≥ 128
  ·rw [if_pos h2, if_pos (by omega)]
   simp
   omega
  ·rw [if_neg h2, if_neg (by omega)]
   simp [Utf8.runeError]
 rw [if_neg h1, if_neg (by simp; omega)]
 by_cases h3 : x / 16 = 14 ∧ y / 64 = 2 ∧ z / 64 = 2
 ·have g1 := e1 h3.2.1
  have g2 := e2 h3.2.2
  rw [if_pos h3, if_pos (by simp; omega)]
  by_cases h4 : x % 16 * 4096 + y % 64 * 64 + z % 64 ≥ 2048 ∧ ¬ (55296 ≤ x % 16 * 4096 + y % 64 * 64 + z % 64 ∧ x % 16 * 4096 + y % 64 * 64 + z % 64 < 57344)
  ·rw [if_pos h4, if_pos (by simp [Utf8.valid]; omega)]
   simp
   omega
  ·rw [if_neg h4, if_neg (by simp [Utf8.valid]; omega)]
   simp [Utf8.runeError]
 rw [if_neg h3, if_neg (by simp; omega)]
 by_cases h5 : x / 8 = 30 ∧ y / 64 = 2 ∧ z / 64 = 2 ∧ v / 64 = 2
 ·have g1 := e1 h5.2.1
  have g2 := e2 h5.2.2.1
  have g3 := e3 h5.2.2.2
  rw [if_pos h5, if_pos (by simp; omega)]
  by_cases h6 : x % 8 * 262144 + y % 64 * 4096 + z % 64 * 64 + v % 64 ≥ 65536 ∧ x % 8 * 262144 + y % 64 * 4096 + z % 64 * 64 + v % 64 ≤ 1114111
  ·rw [if_pos h6, if_pos (by simp [Utf8.valid]; omega)]
   simp
   omega
  ·rw [if_neg h6, if_neg (by simp [Utf8.valid]; omega)]
   simp [Utf8.runeError]
 rw [if_neg h5, if_neg (by simp; omega)]
 simp [Utf8.runeError]
def isOne (x : Int) : Prop := 0 ≤ x ∧ x ≤ 127
def isTwo (x y : Int) : Prop := 194 ≤ x ∧ x ≤ 223 ∧ 128 ≤ y ∧ y ≤ 191
def isThree (x y z : Int) : Prop := 128 ≤ z ∧ z ≤ 191 ∧ ((x = 224 ∧ 160 ≤ y ∧ y ≤ 191) ∨ (225 ≤ x ∧ x ≤ 236 ∧ 128 ≤ y ∧ y ≤ 191) ∨ (x = 237 ∧ 128 ≤ y ∧ y ≤ 159) ∨ (238 ≤ x ∧ x ≤ 239 ∧ 128 ≤ y ∧ y ≤ 191))
def isFour (x y z w : Int) : Prop := 128 ≤ z ∧ z ≤ 191 ∧ 128 ≤ w ∧ w ≤ 191 ∧ ((x = 240 ∧ 144 ≤ y ∧ y ≤ 191) ∨ (241 ≤ x ∧ x ≤ 243 ∧ 128 ≤ y ∧ y ≤ 191) ∨ (x = 244 ∧ 128 ≤ y ∧ y ≤ 143))
theorem longOf_cases (x y z w : Int) : (isOne x ∧ longOf x y z w = 1) ∨ (isTwo x y ∧ longOf x y z w = 2) ∨ (isThree x y z ∧ longOf x y z w = 3) ∨ (isFour x y z w ∧ longOf x y z w = 4) ∨
  (¬ isOne x ∧ ¬ isTwo x y ∧ ¬ isThree x y z ∧ ¬ isFour x y z w ∧ longOf x y z w = 0) := by
 have e1 : (inB x 0 127 = true) ↔ isOne x := by simp [inB, isOne]
 have e2 : (inB x 194 223 && inB y 128 191) = true ↔ isTwo x y := by simp [inB, isTwo]; omega
 have e3 : (inB z 128 191 && three x y) = true ↔ isThree x y z := by simp [inB, isThree, three]; omega
 have e4 : (inB z 128 191 && inB w 128 191 && four x y) = true ↔ isFour x y z w := by simp [inB, isFour, four]; omega
 unfold longOf
 by_cases h1 : isOne x
 ·exact .inl ⟨h1, by rw [if_pos (e1.2 h1)]⟩
 rw [if_neg (fun h => h1 (e1.1 h))]
 by_cases h2 : isTwo x y
 ·exact .inr (.inl ⟨h2, by rw [if_pos (e2.2 h2)]⟩)
 rw [if_neg (fun h => h2 (e2.1 h))]
 by_cases h3 : isThree x y z
 ·exact .inr (.inr (.inl ⟨h3, by rw [if_pos (e3.2 h3)]⟩))
 rw [if_neg (fun h => h3 (e3.1 h))]
 by_cases h4 : isFour x y z w
 ·exact .inr (.inr (.inr (.inl ⟨h4, by rw [if_pos (e4.2 h4)]⟩)))
 rw [if_neg (fun h => h4 (e4.1 h))]
 exact .inr (.inr (.inr (.inr ⟨h1, h2, h3, h4, rfl⟩)))
/-- The rune of an encoding. -/
def runeV (x y z w : Int) : Int := if longOf x y z w = 1 then x else if longOf x y z w = 2 then x % 32 * 64 + y % 64 else if longOf x y z w = 3 then x % 16 * 4096 + y % 64 * 64 + z % 64 else x % 8 * 262144 + y % 64 * 4096 + z % 64 * 64 + w % 64
theorem decV_long (x y z w : Int) (hx0 : 0 ≤ x) (hx1 : x ≤ 255) (hy : y ≤ 255) (hz : z ≤ 255) (hw : w ≤ 255) (hy0 : -1 ≤ y) (hz0 : -1 ≤ z) (hw0 : -1 ≤ w) :
  (longOf x y z w = 0 → decV x y z w = (65533, 1) ∧ ¬ (x = 239 ∧ y = 191 ∧ z = 189)) ∧
  (longOf x y z w ≠ 0 → decV x y z w = (runeV x y z w, (longOf x y z w).toNat) ∧ (runeV x y z w = 65533 ↔ (x = 239 ∧ y = 191 ∧ z = 189))) := by
 rcases longOf_cases x y z w with ⟨h, e⟩ | ⟨h, e⟩ | ⟨h, e⟩ | ⟨h, e⟩ | ⟨h1, h2, h3, h4, e⟩
 ·refine ⟨fun h0 => by omega, fun _ => ?_⟩
  unfold isOne at h
  have hr : runeV x y z w = x := by simp [runeV, e]
  rw [hr, e]
  unfold decV
  rw [if_pos (by omega)]
  exact ⟨rfl, by omega⟩
 ·refine ⟨fun h0 => by omega, fun _ => ?_⟩
  unfold isTwo at h
  have hr : runeV x y z w = x % 32 * 64 + y % 64 := by simp [runeV, e]
  rw [hr, e]
  unfold decV
  rw [if_neg (by omega), if_pos (by omega), if_pos (by omega)]
  exact ⟨rfl, by omega⟩
 ·refine ⟨fun h0 => by omega, fun _ => ?_⟩
  unfold isThree at h
  have hr : runeV x y z w = x % 16 * 4096 + y % 64 * 64 + z % 64 := by simp [runeV, e]
  rw [hr, e]
  unfold decV
  rw [if_neg (by omega), if_neg (by omega), if_pos (by omega), if_pos (by omega)]
  exact ⟨rfl, by omega⟩
 ·refine ⟨fun h0 => by omega, fun _ => ?_⟩
  unfold isFour at h
  have hr : runeV x y z w = x % 8 * 262144 + y % 64 * 4096 + z % 64 * 64 + w % 64 := by simp [runeV, e]
  rw [hr, e]
  unfold decV
  rw [if_neg (by omega), if_neg (by omega), if_neg (by omega), if_pos (by omega), if_pos (by omega)]
  exact ⟨rfl, by omega⟩
 ·refine ⟨fun _ => ?_, fun h0 => absurd e h0⟩
  unfold isOne at h1
  unfold isTwo at h2
  unfold isThree at h3
  unfold isFour at h4
  refine ⟨?_, by omega⟩
  unfold decV
  rw [if_neg (by omega)]
  by_cases g1 : x / 32 = 6 ∧ y / 64 = 2
  ·rw [if_pos g1, if_neg (by omega)]
  rw [if_neg g1]
  by_cases g2 : x / 16 = 14 ∧ y / 64 = 2 ∧ z / 64 = 2
  ·rw [if_pos g2, if_neg (by omega)]
  rw [if_neg g2]
  by_cases g3 : x / 8 = 30 ∧ y / 64 = 2 ∧ z / 64 = 2 ∧ w / 64 = 2
  ·rw [if_pos g3, if_neg (by omega)]
  rw [if_neg g3]
theorem strOfNums_drop (l : List Int) (p : Nat) : (strOfNums l).extract p (strOfNums l).size = strOfNums (l.drop p) := by
 apply ByteArray.ext
 rw [ByteArray.data_extract]
 apply Array.ext'
 rw [Array.toList_extract, strOfNums_size]
 simp only [strOfNums, List.extract_eq_take_drop]
 rw [List.map_drop]
 apply List.take_of_length_le
 simp
theorem atI_drop (l : List Int) (p q : Nat) : atI (l.drop p) (q : Int) = atI l (p + q : Nat) := by
 unfold atI rd
 simp only [List.length_drop, Int.toNat_natCast, List.getD_eq_getElem?_getD, List.getElem?_drop]
 by_cases h : p + q < l.length
 ·rw [if_neg (by omega), if_neg (by omega)]
 ·rw [if_pos (by omega), if_pos (by omega)]
theorem encode_size (r : Int) (h0 : 0 ≤ r) (h1 : r < 55296 ∨ (57344 ≤ r ∧ r ≤ 1114111)) : (Utf8.encode r).size = if r < 128 then 1 else if r < 2048 then 2 else if r < 65536 then 3 else 4 := by
 have hv : Utf8.valid r = true := by simp [Utf8.valid]; omega
 unfold Utf8.encode
 simp only [hv, if_true]
 by_cases g1 : r < 128
 ·rw [if_pos g1, if_pos (by omega)]; rfl
 rw [if_neg g1, if_neg (by omega)]
 by_cases g2 : r < 2048
 ·rw [if_pos g2, if_pos (by omega)]; rfl
 rw [if_neg g2, if_neg (by omega)]
 by_cases g3 : r < 65536
 ·rw [if_pos g3, if_pos (by omega)]; rfl
 rw [if_neg g3, if_neg (by omega)]; rfl
theorem runeV_size (x y z w : Int) (hx0 : 0 ≤ x) (hx1 : x ≤ 255) (hy : y ≤ 255) (hz : z ≤ 255) (hw : w ≤ 255) (h : longOf x y z w ≠ 0) : ((Utf8.encode (runeV x y z w)).size : Int) = longOf x y z w := by
 rcases longOf_cases x y z w with ⟨h, e⟩ | ⟨h, e⟩ | ⟨h, e⟩ | ⟨h, e⟩ | ⟨h1, h2, h3, h4, e⟩
 ·have hr : runeV x y z w = x := by simp [runeV, e]
  unfold isOne at h
  rw [hr, e, encode_size _ (by omega) (by omega), if_pos (by omega)]; rfl
 ·have hr : runeV x y z w = x % 32 * 64 + y % 64 := by simp [runeV, e]
  unfold isTwo at h
  rw [hr, e, encode_size _ (by omega) (by omega), if_neg (by omega), if_pos (by omega)]; rfl
 ·have hr : runeV x y z w = x % 16 * 4096 + y % 64 * 64 + z % 64 := by simp [runeV, e]
  unfold isThree at h
  rw [hr, e, encode_size _ (by omega) (by omega), if_neg (by omega), if_neg (by omega), if_pos (by omega)]; rfl
 ·have hr : runeV x y z w = x % 8 * 262144 + y % 64 * 4096 + z % 64 * 64 + w % 64 := by simp [runeV, e]
  unfold isFour at h
  rw [hr, e, encode_size _ (by omega) (by omega), if_neg (by omega), if_neg (by omega), if_neg (by omega)]; rfl
 ·exact absurd e h
theorem atI_range {l : List Int} (hb : Bytes l) (p : Nat) : -1 ≤ atI l (p : Int) ∧ atI l (p : Int) ≤ 255 := by
 by_cases h : p < l.length
 ·obtain ⟨e, h0, h1⟩ := atI_in hb p h
  rw [e]; omega
 ·rw [atI_out l _ (by omega)]; omega
theorem hasFD_int {l : List Int} (hb : Bytes l) : hasFD (strOfNums l) = true ↔ (atI l (0 : Nat) = 239 ∧ atI l (1 : Nat) = 191 ∧ atI l (2 : Nat) = 189) := by
 match l, hb with
 | [], _ => simp [hasFD, strOfNums_size, atI]
 | [a], _ => simp [hasFD, strOfNums_size, atI]
 | [a, b], _ => simp [hasFD, strOfNums_size, atI]
 | a :: b :: c :: r, hb =>
  have ha := hb a (by simp)
  have hb' := hb b (by simp)
  have hc := hb c (by simp)
  have e0 := (atI_in hb 0 (by simp)).1
  have e1 := (atI_in hb 1 (by simp)).1
  have e2 := (atI_in hb 2 (by simp)).1
  rw [e0, e1, e2]
  have hx : ((strOfNums (a :: b :: c :: r)).extract 0 3).toList = [UInt8.ofNat a.toNat, UInt8.ofNat b.toNat, UInt8.ofNat c.toNat] := by
   have he : (strOfNums (a :: b :: c :: r)).extract 0 3 = strOfNums [a, b, c] := by
    apply ByteArray.ext
    rw [ByteArray.data_extract]
    apply Array.ext'
    rw [Array.toList_extract]
    simp [strOfNums]
   rw [he, Lib.strOfNums_toList]
   rfl
  have u : ∀ (n : Int) (k : Nat), 0 ≤ n → n ≤ 255 → k ≤ 255 → ((UInt8.ofNat n.toNat = UInt8.ofNat k) ↔ n = (k : Int)) := by
   intro n k h0 h1 h2
   rw [← UInt8.toNat_inj]
   simp
   omega
  unfold hasFD
  rw [hx, strOfNums_size]
  have u0 := u a 239 ha.1 ha.2 (by decide)
  have u1 := u b 191 hb'.1 hb'.2 (by decide)
  have u2 := u c 189 hc.1 hc.2 (by decide)
  simp only [beq_iff_eq, Bool.and_eq_true, decide_eq_true_eq, List.cons.injEq, and_true]
  have v0 : (UInt8.ofNat a.toNat = (239 : UInt8)) ↔ a = 239 := u0
  have v1 : (UInt8.ofNat b.toNat = (191 : UInt8)) ↔ b = 191 := u1
  have v2 : (UInt8.ofNat c.toNat = (189 : UInt8)) ↔ c = 189 := u2
  rw [v0, v1, v2]
  simp
/-- The step at a place, by the table. -/
def ofL (l : List Int) (p : Nat) : Int × Int × Bool :=
 if longAt l (p : Int) = 0 then (65533, 1, false) else (runeV (atI l (p : Int)) (atI l (p + 1 : Nat)) (atI l (p + 2 : Nat)) (atI l (p + 3 : Nat)), longAt l (p : Int), true)
theorem longAt_nat (l : List Int) (p : Nat) (hp : p ≤ 4611686018427387904) : longAt l (p : Int) = longOf (atI l (p : Int)) (atI l (p + 1 : Nat)) (atI l (p + 2 : Nat)) (atI l (p + 3 : Nat)) := by
 unfold longAt
 rw [wrap64_small (by omega) (by omega), wrap64_small (by omega) (by omega), wrap64_small (by omega) (by omega)]
 rfl
theorem first_of {l : List Int} (hb : Bytes l) (p : Nat) (hp : p < l.length) (hl : l.length ≤ 4611686018427387904) :
  firstOf ((strOfNums l).extract p (strOfNums l).size) = ofL l p ∧ ((Utf8.decode (strOfNums l) p).2 : Int) = (ofL l p).2.1 := by
 have d1 := decode_int hb p hp
 have d2 := decode_int (hb.drop p) 0 (by simp; omega)
 have r0 := atI_range hb p
 have r1 := atI_range hb (p + 1)
 have r2 := atI_range hb (p + 2)
 have r3 := atI_range hb (p + 3)
 have hx0 : 0 ≤ atI l (p : Int) := by rw [(atI_in hb p hp).1]; exact (atI_in hb p hp).2.1
 have q0 := atI_drop l p 0
 have q1 := atI_drop l p 1
 have q2 := atI_drop l p 2
 have q3 := atI_drop l p 3
 have hfd := hasFD_int (hb.drop p)
 simp only [Nat.zero_add, Nat.add_zero] at d2 q0 q1 q2 q3
 rw [q0, q1, q2, q3] at d2
 rw [q0, q1, q2] at hfd
 have hlong := longAt_nat l p (by omega)
 rw [strOfNums_drop]
 unfold ofL firstOf
 rw [hlong, strOfNums_size, if_neg (by simp; omega)]
 have hD := decV_long (atI l (p : Int)) (atI l (p + 1 : Nat)) (atI l (p + 2 : Nat)) (atI l (p + 3 : Nat)) hx0 r0.2 r1.2 r2.2 r3.2 r1.1 r2.1 r3.1
 have hS := runeV_size (atI l (p : Int)) (atI l (p + 1 : Nat)) (atI l (p + 2 : Nat)) (atI l (p + 3 : Nat)) hx0 r0.2 r1.2 r2.2 r3.2
 obtain ⟨x, hx⟩ : ∃ x, atI l (p : Int) = x := ⟨_, rfl⟩
 obtain ⟨y, hy⟩ : ∃ x, atI l (p + 1 : Nat) = x := ⟨_, rfl⟩
 obtain ⟨z, hz⟩ : ∃ x, atI l (p + 2 : Nat) = x := ⟨_, rfl⟩
 obtain ⟨v, hv⟩ : ∃ x, atI l (p + 3 : Nat) = x := ⟨_, rfl⟩
 simp only [hx, hy, hz, hv] at d1 d2 hfd hD hS ⊢
 clear q0 q1 q2 q3 hx hy hz hv hlong r0 r1 r2 r3 hx0
 by_cases h0 : longOf x y z v = 0
 ·obtain ⟨hd, hn⟩ := hD.1 h0
  rw [hd] at d1 d2
  simp only [Prod.mk.injEq] at d1 d2
  have e1 : (Utf8.decode (strOfNums (l.drop p)) 0).1 = 65533 := by omega
  rw [if_pos h0, if_pos e1, if_neg (fun h => hn (hfd.1 h))]
  exact ⟨rfl, by rw [d1.2]; rfl⟩
 ·obtain ⟨hd, hr⟩ := hD.2 h0
  have hs := hS h0
  rw [hd] at d1 d2
  simp only [Prod.mk.injEq] at d1 d2
  have hpos : 0 ≤ longOf x y z v := by rw [← hs]; omega
  rw [if_neg h0]
  by_cases hr3 : runeV x y z v = 65533
  ·have e1 : (Utf8.decode (strOfNums (l.drop p)) 0).1 = 65533 := by omega
   rw [if_pos e1, if_pos (hfd.2 (hr.1 hr3)), hr3]
   have hl3 : longOf x y z v = 3 := by
    rw [hr3] at hs
    rw [← hs]
    rfl
   rw [hl3] at d1 ⊢
   exact ⟨rfl, by rw [d1.2]; rfl⟩
  ·have e1 : ¬ (Utf8.decode (strOfNums (l.drop p)) 0).1 = 65533 := by omega
   rw [if_neg e1, d2.1, hs]
   refine ⟨rfl, ?_⟩
   show ((Utf8.decode (strOfNums l) p).2 : Int) = longOf x y z v
   rw [d1.2]
   omega

end Go.Proofs.YtijbkiajhicooaaDoor.PW

namespace Go.Proofs.YtijbkiajhicooaaDoor.PW
open Go.RowKit Go.Proofs.YtijbkiajhicooaaDoorW.PrintWords Go.Proofs.YtijbkiajhicooaaDoorW.PrintLast Go.Proofs.YtijbkiajhicooaaDoorW.PrintMore
attribute [local go_sem] max2_int min2_int max_two min_two max_three min_three max_four min_four   -- for this text's walks alone
set_option linter.unusedVariables false
set_option linter.unusedSimpArgs false

def Ev {β : Type} (g : Nat → Option β) (v : β) : Prop := ∃ K, ∀ k, K ≤ k → g k = some v
theorem Ev.pure {β : Type} (v : β) : Ev (fun _ => some v) v := ⟨0, fun _ _ => rfl⟩
theorem Ev.of_eq {β : Type} {g : Nat → Option β} {v : β} (h : ∀ k, g k = some v) : Ev g v := ⟨0, fun k _ => h k⟩
theorem Ev.bind {α β : Type} {g : Nat → Option α} {h : Nat → α → Option β} {v : α} {u : β} (hg : Ev g v) (hh : Ev (fun k => h k v) u) : Ev (fun k => (g k).bind (h k)) u := by
 obtain ⟨K, hK⟩ := hg
 obtain ⟨M, hM⟩ := hh
 refine ⟨max K M, fun k hk => ?_⟩
 show (g k).bind (h k) = some u
 rw [hK k (by omega)]
 exact hM k (by omega)
theorem Ev.succ {β : Type} {g h : Nat → Option β} {v : β} (hh : Ev h v) (e : ∀ k, g (k + 1) = h k) : Ev g v := by
 obtain ⟨K, hK⟩ := hh
 refine ⟨K + 1, fun k hk => ?_⟩
 obtain ⟨m, rfl⟩ : ∃ m, k = m + 1 := ⟨k - 1, by omega⟩
 rw [e]
 exact hK m (by omega)
theorem Ev.congr {β : Type} {g h : Nat → Option β} {v : β} (hh : Ev h v) (e : ∀ k, g k = h k) : Ev g v := by
 obtain ⟨K, hK⟩ := hh
 exact ⟨K, fun k hk => by rw [e]; exact hK k hk⟩
theorem Ev.some {β : Type} {g : Nat → Option β} {v : β} (h : Ev g v) : ∃ k, g k = some v := by
 obtain ⟨K, hK⟩ := h
 exact ⟨K, hK K (Nat.le_refl _)⟩
/-- Does an encoding begin ahead of the place and end behind it? -/
def insideB (l : List Int) (p : Nat) : Bool :=
 (decide (1 ≤ p) && decide (longAt l ((p - 1 : Nat) : Int) > 1)) || (decide (2 ≤ p) && decide (longAt l ((p - 2 : Nat) : Int) > 2)) || (decide (3 ≤ p) && decide (longAt l ((p - 3 : Nat) : Int) > 3))
theorem inside_ev (l : List Int) (p : Nat) (hp : p ≤ 4611686018427387904) : Ev (fun k => galleyref02_Inside.f k l (p : Int)) (insideB l p) := by
 refine ⟨4, fun k hk => ?_⟩
 obtain ⟨m, rfl⟩ : ∃ m, k = m + 4 := ⟨k - 4, by omega⟩
 have w1 : wrap64 ((p : Int) - 1) = p - 1 := wrap64_small (by omega) (by omega)
 have w2 : wrap64 ((p : Int) - 2) = p - 2 := wrap64_small (by omega) (by omega)
 have w3 : wrap64 ((p : Int) - 3) = p - 3 := wrap64_small (by omega) (by omega)
 have s1 : wrap64 (1 + 1) = 2 := by unfold wrap64; omega
 have s2 : wrap64 (2 + 1) = 3 := by unfold wrap64; omega
 have s3 : wrap64 (3 + 1) = 4 := by unfold wrap64; omega
 have n1 : (1 ≤ p) → ((p - 1 : Nat) : Int) = (p : Int) - 1 := fun h => by omega
 have n2 : (2 ≤ p) → ((p - 2 : Nat) : Int) = (p : Int) - 2 := fun h => by omega
 have n3 : (3 ≤ p) → ((p - 3 : Nat) : Int) = (p : Int) - 3 := fun h => by omega
 have g1 : ((p : Int) - 1 ≥ 0) ↔ 1 ≤ p := by omega
 have g2 : ((p : Int) - 2 ≥ 0) ↔ 2 ≤ p := by omega
 have g3 : ((p : Int) - 3 ≥ 0) ↔ 3 ≤ p := by omega
 unfold galleyref02_Inside.f insideB
 simp only [galleyref02_Inside.l0, galleyref02_Long.f, Option.bind_some, w1, w2, w3, s1, s2, s3, g1, g2, g3]
 by_cases h1 : 1 ≤ p
 ·rw [n1 h1]
  by_cases h2 : 2 ≤ p
  ·rw [n2 h2]
   by_cases h3 : 3 ≤ p
   ·rw [n3 h3]
    simp only [h1, h2, h3]
    by_cases a1 : longAt l ((p : Int) - 1) > 1
    ·simp [a1]
    ·by_cases a2 : longAt l ((p : Int) - 2) > 2
     ·simp [a1, a2]
     ·by_cases a3 : longAt l ((p : Int) - 3) > 3
      ·simp [a1, a2, a3]
      ·simp [a1, a2, a3]
   ·simp only [h1, h2, h3]
    by_cases a1 : longAt l ((p : Int) - 1) > 1
    ·simp [a1]
    ·by_cases a2 : longAt l ((p : Int) - 2) > 2
     ·simp [a1, a2]
     ·simp [a1, a2]
  ·have h3 : ¬ 3 ≤ p := by omega
   simp only [h1, h2, h3]
   by_cases a1 : longAt l ((p : Int) - 1) > 1
   ·simp [a1]
   ·simp [a1]
 ·have h2 : ¬ 2 ≤ p := by omega
  have h3 : ¬ 3 ≤ p := by omega
  simp [h1, h2, h3]
theorem edges_ev (l : List Int) (hl : l.length ≤ 4398046511104) : ∀ (n p : Nat) (out : List Int), p + n = l.length + 1 → out.length ≤ p → Ev (fun k => galleyref02_Edges.l0 k l out (p : Int)) (out ++ ((List.range' p n).filter fun q => !insideB l q).map (Int.ofNat ·)) := by
 intro n
 induction n with
 | zero =>
  intro p out hp ho
  refine Ev.succ (h := fun _ => some out) ?_ (fun k => ?_)
  ·simpa using Ev.pure out
  ·simp only [galleyref02_Edges.l0]
   rw [if_neg (by omega)]
 | succ n ih =>
  intro p out hp ho
  have hw : wrap64 ((p : Int) + 1) = ((p + 1 : Nat) : Int) := by rw [wrap64_small (by omega) (by omega)]; omega
  refine Ev.succ (h := fun k => (galleyref02_Inside.f k l (p : Int)).bind fun t => if t = true then galleyref02_Edges.l0 k l out ((p + 1 : Nat) : Int) else galleyref02_Edges.l0 k l (out ++ [(p : Int)]) ((p + 1 : Nat) : Int)) ?_ (fun k => ?_)
  ·refine Ev.bind (inside_ev l p (by omega)) ?_
   rw [List.range'_succ, List.filter_cons]
   cases hi : insideB l p with
   | true => simpa using ih (p + 1) out (by omega) (by omega)
   | false => simpa using ih (p + 1) (out ++ [(p : Int)]) (by omega) (by simp; omega)
  ·simp only [galleyref02_Edges.l0]
   rw [if_pos (by omega), hw]
   congr 1
   funext t
   rw [if_pos (show out.length < 17592186044416 by omega)]

end Go.Proofs.YtijbkiajhicooaaDoor.PW

namespace Go.Proofs.YtijbkiajhicooaaDoor.PW
open Go.RowKit Go.Proofs.YtijbkiajhicooaaDoorW.PrintWords Go.Proofs.YtijbkiajhicooaaDoorW.PrintLast Go.Proofs.YtijbkiajhicooaaDoorW.PrintMore
attribute [local go_sem] max2_int min2_int max_two min_two max_three min_three max_four min_four   -- for this text's walks alone
set_option linter.unusedVariables false
set_option linter.unusedSimpArgs false

/-- No line end stands from a on and ahead of b. -/
def PlainTo (l : List Int) (a b : Int) : Prop := ∀ q : Int, a ≤ q → q < b → rd l q ≠ 10 ∧ rd l q ≠ 13
/-- A line that is not the last one ends with a line end. -/
def EndsAt (l : List Int) (r : S127) : Prop :=
 (r.f1 < (l.length : Int) ∧ rd l r.f1 = 10 ∧ r.f2 = r.f1 ∧ r.f3 = r.f1 + 1) ∨
 (r.f1 + 1 < (l.length : Int) ∧ rd l r.f1 = 13 ∧ rd l (r.f1 + 1) = 10 ∧ r.f2 = r.f1 + 1 ∧ r.f3 = r.f1 + 2) ∨
 (r.f1 < (l.length : Int) ∧ rd l r.f1 = 13 ∧ ¬ (r.f1 + 1 < (l.length : Int) ∧ rd l (r.f1 + 1) = 10) ∧ r.f2 = r.f1 ∧ r.f3 = r.f1 + 1)
/-- Lines from a place on. -/
def LChain (l : List Int) : Int → List S127 → Prop
 | _, [] => False
 | a, r :: rs => r.f0 = a ∧ a ≤ r.f1 ∧ PlainTo l a r.f1 ∧ ((rs = [] ∧ r.f1 = (l.length : Int) ∧ r.f2 = (l.length : Int) ∧ r.f3 = (l.length : Int)) ∨ (EndsAt l r ∧ LChain l r.f3 rs))
theorem lineAt_out (l : List Int) : ∀ (k : Nat) (start i : Int) (out : List S127), lineAt l k start i out = out ++ lineAt l k start i [] := by
 intro k
 induction k with
 | zero => intro start i out; simp [lineAt]
 | succ k ih =>
  intro start i out
  simp only [lineAt]
  by_cases h : i < (l.length : Int)
  ·rw [if_pos h, if_pos h]
   by_cases h1 : rd l i = 10
   ·rw [if_pos h1, if_pos h1, ih _ _ (out ++ _), ih _ _ ([] ++ _)]
    simp
   ·rw [if_neg h1, if_neg h1]
    by_cases h2 : rd l i = 13
    ·rw [if_pos h2, if_pos h2]
     by_cases h3 : i + 1 < (l.length : Int) ∧ rd l (i + 1) = 10
     ·rw [if_pos h3, if_pos h3, ih _ _ (out ++ _), ih _ _ ([] ++ _)]
      simp
     ·rw [if_neg h3, if_neg h3, ih _ _ (out ++ _), ih _ _ ([] ++ _)]
      simp
    ·rw [if_neg h2, if_neg h2]
     exact ih _ _ out
  ·rw [if_neg h, if_neg h]
   simp
theorem lineAt_chain (l : List Int) : ∀ (k : Nat) (start i : Int), 0 ≤ start → start ≤ i → i ≤ (l.length : Int) → (l.length : Int) - i < k → PlainTo l start i → LChain l start (lineAt l k start i []) := by
 intro k
 induction k with
 | zero => intro start i h0 h1 h2 h3; omega
 | succ k ih =>
  intro start i h0 h1 h2 h3 hp
  simp only [lineAt]
  by_cases h : i < (l.length : Int)
  ·rw [if_pos h]
   by_cases g1 : rd l i = 10
   ·rw [if_pos g1, lineAt_out]
    refine ⟨rfl, h1, hp, .inr ⟨.inl ⟨h, g1, rfl, rfl⟩, ih (i + 1) (i + 1) (by omega) (Int.le_refl _) (by omega) (by omega) (fun q a b => by omega)⟩⟩
   ·rw [if_neg g1]
    by_cases g2 : rd l i = 13
    ·rw [if_pos g2]
     by_cases g3 : i + 1 < (l.length : Int) ∧ rd l (i + 1) = 10
     ·rw [if_pos g3, lineAt_out]
      exact ⟨rfl, h1, hp, .inr ⟨.inr (.inl ⟨g3.1, g2, g3.2, rfl, rfl⟩), ih (i + 2) (i + 2) (by omega) (Int.le_refl _) (by omega) (by omega) (fun q a b => by omega)⟩⟩
     ·rw [if_neg g3, lineAt_out]
      exact ⟨rfl, h1, hp, .inr ⟨.inr (.inr ⟨h, g2, g3, rfl, rfl⟩), ih (i + 1) (i + 1) (by omega) (Int.le_refl _) (by omega) (by omega) (fun q a b => by omega)⟩⟩
    ·rw [if_neg g2]
     refine ih start (i + 1) h0 (by omega) (by omega) (by omega) (fun q a b => ?_)
     by_cases e : q = i
     ·rw [e]; exact ⟨g1, g2⟩
     ·exact hp q a (by omega)
  ·rw [if_neg h]
   obtain rfl : i = (l.length : Int) := by omega
   exact ⟨rfl, h1, hp, .inl ⟨rfl, rfl, rfl, rfl⟩⟩
theorem allLines_chain (l : List Int) : LChain l 0 (allLines l) :=
 lineAt_chain l _ 0 0 (Int.le_refl _) (Int.le_refl _) (by omega) (by omega) (fun q a b => by omega)

end Go.Proofs.YtijbkiajhicooaaDoor.PW

namespace Go.Proofs.YtijbkiajhicooaaDoor.PW
open Go.RowKit Go.Proofs.YtijbkiajhicooaaDoorW.PrintWords Go.Proofs.YtijbkiajhicooaaDoorW.PrintLast Go.Proofs.YtijbkiajhicooaaDoorW.PrintMore
attribute [local go_sem] max2_int min2_int max_two min_two max_three min_three max_four min_four   -- for this text's walks alone
set_option linter.unusedVariables false
set_option linter.unusedSimpArgs false

/-- How far the step at a place goes. -/
def widL (l : List Int) (p : Nat) : Nat := if longAt l (p : Int) = 0 then 1 else (longAt l (p : Int)).toNat
theorem longAt_facts {l : List Int} (hb : Bytes l) (p : Nat) (hl : l.length ≤ 4398046511104) (hp : p ≤ l.length) :
  0 ≤ longAt l (p : Int) ∧ longAt l (p : Int) ≤ 4 ∧ (0 < longAt l (p : Int) → p + (longAt l (p : Int)).toNat ≤ l.length) ∧
  (∀ j : Nat, 1 ≤ j → (j : Int) < longAt l (p : Int) → 128 ≤ atI l (p + j : Nat) ∧ atI l (p + j : Nat) ≤ 191) ∧ (128 ≤ atI l (p : Int) ∧ atI l (p : Int) ≤ 191 → longAt l (p : Int) = 0) := by
 have hlong := longAt_nat l p (by omega)
 have r1 : 0 ≤ atI l (p + 1 : Nat) → p + 1 < l.length := fun h => by
  by_cases g : p + 1 < l.length
  ·exact g
  ·rw [atI_out l _ (by omega)] at h; omega
 have r2 : 0 ≤ atI l (p + 2 : Nat) → p + 2 < l.length := fun h => by
  by_cases g : p + 2 < l.length
  ·exact g
  ·rw [atI_out l _ (by omega)] at h; omega
 have r3 : 0 ≤ atI l (p + 3 : Nat) → p + 3 < l.length := fun h => by
  by_cases g : p + 3 < l.length
  ·exact g
  ·rw [atI_out l _ (by omega)] at h; omega
 have r0 : 0 ≤ atI l (p : Int) → p < l.length := fun h => by
  by_cases g : p < l.length
  ·exact g
  ·rw [atI_out l _ (by omega)] at h; omega
 have sp : ∀ j : Nat, 1 ≤ j → (j : Int) < 4 → j = 1 ∨ j = 2 ∨ j = 3 := fun j h1 h2 => by omega
 rw [hlong]
 rcases longOf_cases (atI l (p : Int)) (atI l (p + 1 : Nat)) (atI l (p + 2 : Nat)) (atI l (p + 3 : Nat)) with ⟨h, e⟩ | ⟨h, e⟩ | ⟨h, e⟩ | ⟨h, e⟩ | ⟨h1, h2, h3, h4, e⟩
 ·unfold isOne at h
  rw [e]
  exact ⟨by omega, by omega, fun _ => by have := r0 (by omega); simp; omega, fun j h1 h2 => by omega, fun g => by omega⟩
 ·unfold isTwo at h
  rw [e]
  refine ⟨by omega, by omega, fun _ => by have := r1 (by omega); simp; omega, fun j h1 h2 => ?_, fun g => by omega⟩
  obtain rfl : j = 1 := by omega
  omega
 ·unfold isThree at h
  rw [e]
  refine ⟨by omega, by omega, fun _ => by have := r2 (by omega); simp; omega, fun j h1 h2 => ?_, fun g => by omega⟩
  rcases (show j = 1 ∨ j = 2 by omega) with rfl | rfl
  ·omega
  ·omega
 ·unfold isFour at h
  rw [e]
  refine ⟨by omega, by omega, fun _ => by have := r3 (by omega); simp; omega, fun j h1 h2 => ?_, fun g => by omega⟩
  rcases sp j h1 h2 with rfl | rfl | rfl
  ·omega
  ·omega
  ·omega
 ·rw [e]
  exact ⟨by omega, by omega, fun h => by omega, fun j h1 h2 => by omega, fun _ => rfl⟩
theorem widL_pos {l : List Int} (hb : Bytes l) (p : Nat) (hl : l.length ≤ 4398046511104) (hp : p < l.length) : 1 ≤ widL l p ∧ widL l p ≤ 4 ∧ p + widL l p ≤ l.length := by
 obtain ⟨h0, h1, h2, _, _⟩ := longAt_facts hb p hl (by omega)
 unfold widL
 by_cases h : longAt l (p : Int) = 0
 ·rw [if_pos h]; omega
 ·rw [if_neg h]
  have := h2 (by omega)
  omega
/-- A place where a step begins: no encoding reaches over it. -/
def Vis (l : List Int) (p : Nat) : Prop := ∀ j : Nat, 1 ≤ j → j ≤ 3 → j ≤ p → longAt l ((p - j : Nat) : Int) ≤ j
theorem inside_vis {l : List Int} {p : Nat} (h : Vis l p) : insideB l p = false := by
 unfold insideB
 have h1 := h 1 (by omega) (by omega)
 have h2 := h 2 (by omega) (by omega)
 have h3 := h 3 (by omega) (by omega)
 by_cases g1 : 1 ≤ p
 ·have := h1 g1
  by_cases g2 : 2 ≤ p
  ·have := h2 g2
   by_cases g3 : 3 ≤ p
   ·have := h3 g3
    simp; omega
   ·simp; omega
  ·simp; omega
 ·simp; omega
theorem vis_next {l : List Int} (hb : Bytes l) {p : Nat} (hl : l.length ≤ 4398046511104) (hp : p < l.length) (h : Vis l p) : Vis l (p + widL l p) := by
 intro j j1 j3 jp
 obtain ⟨h0, h4, h2, hc, _⟩ := longAt_facts hb p hl (by omega)
 obtain ⟨w1, w4, wl⟩ := widL_pos hb p hl hp
 by_cases c1 : j = widL l p
 ·rw [show p + widL l p - j = p by omega]
  rw [c1]
  unfold widL
  by_cases g : longAt l (p : Int) = 0
  ·rw [if_pos g]; omega
  ·rw [if_neg g]; omega
 ·by_cases c2 : j < widL l p
  ·obtain ⟨i, hi⟩ : ∃ i, widL l p - j = i := ⟨_, rfl⟩
   have hlt : (i : Int) < longAt l (p : Int) := by
    unfold widL at hi c2
    by_cases g : longAt l (p : Int) = 0
    ·rw [if_pos g] at c2; omega
    ·rw [if_neg g] at hi; omega
   have hcc := hc i (by omega) hlt
   have hz := (longAt_facts hb (p + i) hl (by omega)).2.2.2.2 hcc
   rw [show p + widL l p - j = p + i by omega, hz]
   omega
  ·have := h (j - widL l p) (by omega) (by omega) (by omega)
   rw [show p + widL l p - j = p - (j - widL l p) by omega]
   omega
theorem vis_zero (l : List Int) : Vis l 0 := fun j h1 _ h3 => by omega
theorem inside_step {l : List Int} (hb : Bytes l) {p : Nat} (hl : l.length ≤ 4398046511104) (hp : p < l.length) (j : Nat) (h1 : 1 ≤ j) (h2 : j < widL l p) : insideB l (p + j) = true := by
 obtain ⟨h0, h4, _, _, _⟩ := longAt_facts hb p hl (by omega)
 obtain ⟨w1, w4, wl⟩ := widL_pos hb p hl hp
 have hlt : (j : Int) < longAt l (p : Int) := by
  unfold widL at h2
  by_cases g : longAt l (p : Int) = 0
  ·rw [if_pos g] at h2; omega
  ·rw [if_neg g] at h2; omega
 unfold insideB
 rcases (show j = 1 ∨ j = 2 ∨ j = 3 by omega) with rfl | rfl | rfl
 ·rw [show p + 1 - 1 = p by omega]
  simp; omega
 ·rw [show p + 2 - 2 = p by omega]
  simp; omega
 ·rw [show p + 3 - 3 = p by omega]
  simp; omega
/-- The places where steps begin, from an edge on, and the end. -/
theorem edges_from {l : List Int} (hb : Bytes l) (hl : l.length ≤ 4398046511104) : ∀ (n p : Nat), l.length - p = n → p ≤ l.length → Vis l p →
  ((List.range' p (l.length + 1 - p)).filter fun q => !insideB l q).map (Int.ofNat ·) = (stepsFrom (strOfNums l) p).map (·.1) ++ [(l.length : Int)] := by
 intro n
 induction n using Nat.strongRecOn with
 | _ n ih =>
  intro p hn hp hv
  by_cases hlt : p < l.length
  ·obtain ⟨w1, w4, wl⟩ := widL_pos hb p hl hlt
   have hd := (first_of hb p hlt (by omega)).2
   have hw : (Utf8.decode (strOfNums l) p).2 = widL l p := by
    have : (ofL l p).2.1 = (widL l p : Int) := by
     unfold ofL widL
     by_cases g : longAt l (p : Int) = 0
     ·rw [if_pos g, if_pos g]; rfl
     ·rw [if_neg g, if_neg g]
      have := (longAt_facts hb p hl (by omega)).1
      show longAt l (p : Int) = _
      omega
    omega
   rw [stepsFrom_cons _ _ (by rw [strOfNums_size]; exact hlt), hw]
   have hr : List.range' p (l.length + 1 - p) = List.range' p (widL l p) ++ List.range' (p + widL l p) (l.length + 1 - (p + widL l p)) := by
    rw [List.range'_append_1]
    congr 1
    omega
   have hf : (List.range' p (widL l p)).filter (fun q => !insideB l q) = [p] := by
    obtain ⟨m, hm⟩ : ∃ m, widL l p = m + 1 := ⟨widL l p - 1, by omega⟩
    rw [hm, List.range'_succ, List.filter_cons, inside_vis hv]
    simp only [Bool.not_false, if_true, List.cons.injEq, true_and]
    rw [List.filter_eq_nil_iff]
    intro q hq
    rw [List.mem_range'_1] at hq
    have := inside_step hb hl hlt (q - p) (by omega) (by omega)
    rw [show p + (q - p) = q by omega] at this
    simp [this]
   rw [hr, List.filter_append, List.map_append, hf, ih (l.length - (p + widL l p)) (by omega) (p + widL l p) rfl (by omega) (vis_next hb hl hlt hv)]
   rfl
  ·obtain rfl : p = l.length := by omega
   rw [stepsFrom_nil _ _ (by rw [strOfNums_size]; exact hlt), show l.length + 1 - l.length = 1 by omega]
   simp [List.range', inside_vis hv]

end Go.Proofs.YtijbkiajhicooaaDoor.PW

namespace Go.Proofs.YtijbkiajhicooaaDoor.PW
open Go.RowKit Go.Proofs.YtijbkiajhicooaaDoorW.PrintWords Go.Proofs.YtijbkiajhicooaaDoorW.PrintLast Go.Proofs.YtijbkiajhicooaaDoorW.PrintMore
attribute [local go_sem] max2_int min2_int max_two min_two max_three min_three max_four min_four   -- for this text's walks alone
set_option linter.unusedVariables false
set_option linter.unusedSimpArgs false

theorem wrap32_small {n : Int} (h0 : -2147483648 ≤ n) (h1 : n ≤ 2147483647) : wrap32 n = n := by unfold wrap32; omega
theorem rd_atI {l : List Int} (hb : Bytes l) (p : Nat) (h : p < l.length) : rd l (p : Int) = atI l (p : Int) ∧ 0 ≤ atI l (p : Int) ∧ atI l (p : Int) ≤ 255 := by
 obtain ⟨e, h0, h1⟩ := atI_in hb p h
 rw [e]
 exact ⟨by unfold rd; simp, h0, h1⟩
theorem tmod_nn (a b : Int) (h : 0 ≤ a) : Int.tmod a b = a % b := Int.tmod_eq_emod_of_nonneg h
theorem of_l0_step {l : List Int} (hb : Bytes l) (hl : l.length ≤ 4398046511104) (m p i : Nat) (n r : Int) (hi : (i : Int) < n) (hin : p + i < l.length) (h4 : i ≤ 4) (r0 : 0 ≤ r) (r1 : r ≤ 2097152) :
  galleyref02_Of.l0 (m + 1) l (p : Int) n r (i : Int) = galleyref02_Of.l0 m l (p : Int) n (r * 64 + atI l (p + i : Nat) % 64) ((i + 1 : Nat) : Int) := by
 obtain ⟨e, y0, y1⟩ := rd_atI hb (p + i) hin
 have e1 : wrap64 ((p : Int) + (i : Int)) = ((p + i : Nat) : Int) := by rw [wrap64_small (by omega) (by omega)]; omega
 have e2 : wrap64 ((i : Int) + 1) = ((i + 1 : Nat) : Int) := by rw [wrap64_small (by omega) (by omega)]; omega
 have e3 : wrap64 (rd l ((p + i : Nat) : Int)) = atI l (p + i : Nat) := by rw [e, wrap64_small (by omega) (by omega)]
 have e4 : wrap64 (r * 64) = r * 64 := wrap64_small (by omega) (by omega)
 have e5 : wrap64 (r * 64 + atI l (p + i : Nat) % 64) = r * 64 + atI l (p + i : Nat) % 64 := wrap64_small (by omega) (by omega)
 rw [galleyref02_Of.l0, if_pos hi, e1, if_pos (by omega), if_pos (by omega), e2, e3, e4, tmod_nn _ _ y0, e5]
theorem of_l0_end (l : List Int) (m : Nat) (p n r i : Int) (h : ¬ i < n) (r0 : 0 ≤ r) (r1 : r ≤ 2097152) : galleyref02_Of.l0 (m + 1) l p n r i = some (r, n, true) := by
 rw [galleyref02_Of.l0, if_neg h, wrap32_small (by omega) (by omega)]
theorem of_ev {l : List Int} (hb : Bytes l) (hl : l.length ≤ 4398046511104) (p : Nat) (hp : p < l.length) : Ev (fun k => galleyref02_Of.f k l (p : Int)) (ofL l p) := by
 refine ⟨6, fun k hk => ?_⟩
 obtain ⟨m, rfl⟩ : ∃ m, k = m + 6 := ⟨k - 6, by omega⟩
 obtain ⟨f0, f4, fl, fc, _⟩ := longAt_facts hb p hl (by omega)
 obtain ⟨e0, x0, x1⟩ := rd_atI hb p hp
 have hlong := longAt_nat l p (by omega)
 have wx : wrap64 (rd l (p : Int)) = atI l (p : Int) := by rw [e0, wrap64_small (by omega) (by omega)]
 have g0 : (0 : Int) ≤ (p : Int) := by omega
 have g1 : (p : Int) < (l.length : Int) := by omega
 have hy := atI_range hb (p + 1)
 have hz := atI_range hb (p + 2)
 show galleyref02_Of.f (m + 6) l (p : Int) = some _
 unfold galleyref02_Of.f ofL
 rw [show galleyref02_Long.f l (p : Int) = some (longAt l (p : Int)) from rfl, Option.bind_some, wx]
 rcases longOf_cases (atI l (p : Int)) (atI l (p + 1 : Nat)) (atI l (p + 2 : Nat)) (atI l (p + 3 : Nat)) with ⟨h, e⟩ | ⟨h, e⟩ | ⟨h, e⟩ | ⟨h, e⟩ | ⟨h1, h2, h3, h4, e⟩
 ·have hr : runeV (atI l (p : Int)) (atI l (p + 1 : Nat)) (atI l (p + 2 : Nat)) (atI l (p + 3 : Nat)) = atI l (p : Int) := by unfold runeV; rw [if_pos e]
  rw [hr, hlong, e, if_neg (by decide), if_pos g0, if_pos g1, if_neg (by decide), if_neg (by decide), if_neg (by decide), if_neg (by decide)]
  rw [galleyref02_Of.j0, of_l0_end _ _ _ _ _ _ (by decide) (by omega) (by omega)]
 ·have hr : runeV (atI l (p : Int)) (atI l (p + 1 : Nat)) (atI l (p + 2 : Nat)) (atI l (p + 3 : Nat)) = atI l (p : Int) % 32 * 64 + atI l (p + 1 : Nat) % 64 := by unfold runeV; rw [if_neg (by rw [e]; decide), if_pos e]
  have q1 : p + 2 ≤ l.length := by rw [hlong, e] at fl; exact fl (by decide)
  have y0 := (rd_atI hb (p + 1) (by omega)).2
  rw [hr, hlong, e, if_neg (by decide), if_pos g0, if_pos g1, if_pos rfl, tmod_nn _ _ x0, if_neg (by decide), galleyref02_Of.j0]
  refine (of_l0_step hb hl (m + 4) p 1 2 _ (by decide) (by omega) (by decide) (by omega) (by omega)).trans ?_
  exact of_l0_end _ _ _ _ _ _ (by decide) (by omega) (by omega)
 ·have hr : runeV (atI l (p : Int)) (atI l (p + 1 : Nat)) (atI l (p + 2 : Nat)) (atI l (p + 3 : Nat)) = atI l (p : Int) % 16 * 4096 + atI l (p + 1 : Nat) % 64 * 64 + atI l (p + 2 : Nat) % 64 := by unfold runeV; rw [if_neg (by rw [e]; decide), if_neg (by rw [e]; decide), if_pos e]
  have q1 : p + 3 ≤ l.length := by rw [hlong, e] at fl; exact fl (by decide)
  have y0 := (rd_atI hb (p + 1) (by omega)).2
  have z0 := (rd_atI hb (p + 2) (by omega)).2
  rw [hr, hlong, e, if_neg (by decide), if_pos g0, if_pos g1, if_neg (by decide), if_pos rfl, tmod_nn _ _ x0, if_neg (by decide), galleyref02_Of.j0]
  refine (of_l0_step hb hl (m + 4) p 1 3 _ (by decide) (by omega) (by decide) (by omega) (by omega)).trans ?_
  refine (of_l0_step hb hl (m + 3) p 2 3 _ (by decide) (by omega) (by decide) (by omega) (by omega)).trans ?_
  refine (of_l0_end _ _ _ _ _ _ (by decide) (by omega) (by omega)).trans ?_
  congr 2
  omega
 ·have hr : runeV (atI l (p : Int)) (atI l (p + 1 : Nat)) (atI l (p + 2 : Nat)) (atI l (p + 3 : Nat)) = atI l (p : Int) % 8 * 262144 + atI l (p + 1 : Nat) % 64 * 4096 + atI l (p + 2 : Nat) % 64 * 64 + atI l (p + 3 : Nat) % 64 := by unfold runeV; rw [if_neg (by rw [e]; decide), if_neg (by rw [e]; decide), if_neg (by rw [e]; decide)]
  have q1 : p + 4 ≤ l.length := by rw [hlong, e] at fl; exact fl (by decide)
  have y0 := (rd_atI hb (p + 1) (by omega)).2
  have z0 := (rd_atI hb (p + 2) (by omega)).2
  have v0 := (rd_atI hb (p + 3) (by omega)).2
  rw [hr, hlong, e, if_neg (by decide), if_pos g0, if_pos g1, if_neg (by decide), if_neg (by decide), if_pos rfl, tmod_nn _ _ x0, if_neg (by decide), galleyref02_Of.j0]
  refine (of_l0_step hb hl (m + 4) p 1 4 _ (by decide) (by omega) (by decide) (by omega) (by omega)).trans ?_
  refine (of_l0_step hb hl (m + 3) p 2 4 _ (by decide) (by omega) (by decide) (by omega) (by omega)).trans ?_
  refine (of_l0_step hb hl (m + 2) p 3 4 _ (by decide) (by omega) (by decide) (by omega) (by omega)).trans ?_
  refine (of_l0_end _ _ _ _ _ _ (by decide) (by omega) (by omega)).trans ?_
  congr 2
  omega
 ·rw [hlong, e, if_pos rfl, if_pos rfl]

end Go.Proofs.YtijbkiajhicooaaDoor.PW

namespace Go.Proofs.YtijbkiajhicooaaDoor.PW
open Go.RowKit Go.Proofs.YtijbkiajhicooaaDoorW.PrintWords Go.Proofs.YtijbkiajhicooaaDoorW.PrintLast Go.Proofs.YtijbkiajhicooaaDoorW.PrintMore
attribute [local go_sem] max2_int min2_int max_two min_two max_three min_three max_four min_four   -- for this text's walks alone
set_option linter.unusedVariables false
set_option linter.unusedSimpArgs false

theorem steps_mem {l : List Int} (hb : Bytes l) (hl : l.length ≤ 4398046511104) : ∀ (n p : Nat), l.length - p = n → ∀ x ∈ stepsFrom (strOfNums l) p, ∃ q : Nat, q < l.length ∧ x = ((q : Int), ofL l q) := by
 intro n
 induction n using Nat.strongRecOn with
 | _ n ih =>
  intro p hn x hx
  by_cases hlt : p < l.length
  ·have hw := decode_pos (strOfNums l) p (by rw [strOfNums_size]; exact hlt)
   rw [stepsFrom_cons _ _ (by rw [strOfNums_size]; exact hlt), List.mem_cons] at hx
   rcases hx with rfl | hx
   ·exact ⟨p, hlt, by rw [(first_of hb p hlt (by omega)).1]⟩
   ·exact ih (l.length - (p + (Utf8.decode (strOfNums l) p).2)) (by omega) _ rfl x hx
  ·rw [stepsFrom_nil _ _ (by rw [strOfNums_size]; exact hlt)] at hx
   cases hx
def toS (x : PStep) : S23 := ⟨x.2.1, x.2.2.1, x.2.2.2⟩
theorem steps_ev {l : List Int} (hb : Bytes l) (hl : l.length ≤ 4398046511104) (T : List PStep) (hT : ∀ x ∈ T, ∃ q : Nat, q < l.length ∧ x = ((q : Int), ofL l q)) (hTl : T.length ≤ 4398046511104) (e : Int) :
  ∀ (n i : Nat) (out : List S23), T.length - i = n → i ≤ T.length → out.length ≤ i → Ev (fun k => galleyref02_Steps.l0 k l out (T.map (·.1) ++ [e]) (i : Int)) (out ++ (T.drop i).map toS) := by
 intro n
 induction n with
 | zero =>
  intro i out hn hi ho
  obtain rfl : i = T.length := by omega
  have hw : wrap64 ((T.length : Int) + 1) = (T.length : Int) + 1 := wrap64_small (by omega) (by omega)
  refine Ev.succ (h := fun _ => some out) ?_ (fun k => ?_)
  ·simpa using Ev.pure out
  ·rw [galleyref02_Steps.l0, hw, if_neg (by simp)]
 | succ n ih =>
  intro i out hn hi ho
  have hlt : i < T.length := by omega
  have hw : wrap64 ((i : Int) + 1) = ((i + 1 : Nat) : Int) := by rw [wrap64_small (by omega) (by omega)]; omega
  obtain ⟨q, hq, hx⟩ := hT T[i] (List.getElem_mem hlt)
  have hrd : rd (T.map (·.1) ++ [e]) (i : Int) = (q : Int) := by
   unfold rd
   rw [List.getD_eq_getElem?_getD, Int.toNat_natCast, List.getElem?_append_left (by simpa using hlt), List.getElem?_map, List.getElem?_eq_getElem hlt, hx]
   rfl
  refine Ev.succ (h := fun k => (galleyref02_Of.f k l (q : Int)).bind fun b => galleyref02_Steps.l0 k l (out ++ [⟨b.1, b.2.1, b.2.2⟩]) (T.map (·.1) ++ [e]) ((i + 1 : Nat) : Int)) ?_ (fun k => ?_)
  ·refine Ev.bind (of_ev hb hl q hq) ?_
   have := ih (i + 1) (out ++ [⟨(ofL l q).1, (ofL l q).2.1, (ofL l q).2.2⟩]) (by omega) (by omega) (by simp; omega)
   rw [List.drop_eq_getElem_cons hlt, hx]
   simpa [toS] using this
  ·rw [galleyref02_Steps.l0, hw, if_pos (by simp; omega), if_pos (by omega), if_pos (by simp; omega), hrd]
   congr 1
   funext b
   rw [if_pos (show out.length < 5864062014805 by omega)]
/-- All steps, by the reference. -/
theorem ref_steps {l : List Int} (hb : Bytes l) (hl : l.length ≤ 4398046511103) : Ev (fun k => galleyref02_Steps.f k l) ((allSteps (strOfNums l)).map toS) := by
 unfold galleyref02_Steps.f
 have he := edges_ev l (by omega) (l.length + 1) 0 [] (by omega) (by simp)
 have hf := edges_from hb (by omega) l.length 0 (by omega) (by omega) (vis_zero l)
 rw [show l.length + 1 - 0 = l.length + 1 by omega] at hf
 rw [hf, List.nil_append] at he
 refine Ev.bind (v := (stepsFrom (strOfNums l) 0).map (·.1) ++ [(l.length : Int)]) ?_ ?_
 ·exact he
 ·have hlen := stepsFrom_length (strOfNums l) 0
  rw [strOfNums_size] at hlen
  have := steps_ev hb (by omega) (stepsFrom (strOfNums l) 0) (steps_mem hb (by omega) l.length 0 (by omega)) (by omega) (l.length : Int) (stepsFrom (strOfNums l) 0).length 0 [] (by omega) (by omega) (by simp)
  simpa [allSteps] using this

end Go.Proofs.YtijbkiajhicooaaDoor.PW

namespace Go.Proofs.YtijbkiajhicooaaDoor.PW
open Go.RowKit Go.Proofs.YtijbkiajhicooaaDoorW.PrintWords Go.Proofs.YtijbkiajhicooaaDoorW.PrintLast Go.Proofs.YtijbkiajhicooaaDoorW.PrintMore
attribute [local go_sem] max2_int min2_int max_two min_two max_three min_three max_four min_four   -- for this text's walks alone
set_option linter.unusedVariables false
set_option linter.unusedSimpArgs false

theorem ref_kind (r x : Int) (w : Bool) : galleyref22_Kind.f 4 r x w = some (kindOf r w) := by
 unfold galleyref22_Kind.f kindOf
 cases w with
 | false => rfl
 | true =>
  simp only [if_true, galleyref22_Kind.j0, galleyref22_Kind.j1]
  by_cases h1 : r = 32
  ·simp [h1]
  ·by_cases h2 : r = 9
   ·simp [h2]
   ·rw [if_neg h1]
    have e9 : (r == 9) = false := by simpa using h2
    rw [e9, if_neg (show ¬ (r = 32 ∨ r = 9) by omega)]
    simp only [Bool.false_eq_true, if_false]
    by_cases h3 : r = 10
    ·simp [h3]
    ·by_cases h4 : r = 13
     ·simp [h4]
     ·rw [if_neg h3]
      have e13 : (r == 13) = false := by simpa using h4
      rw [e13, if_neg (show ¬ (r = 10 ∨ r = 13) by omega)]
      simp only [Bool.false_eq_true, if_false]
      by_cases h5 : (48 ≤ r ∧ r ≤ 57) ∨ r = 95 ∨ (65 ≤ r ∧ r ≤ 90) ∨ (97 ≤ r ∧ r ≤ 122) ∨ 128 ≤ r
      ·rw [if_pos h5]
       repeat' split
       all_goals first | rfl | (exfalso; omega)
      ·rw [if_neg h5]
       repeat' split
       all_goals first | rfl | (exfalso; omega)
theorem ref_kind_ev (r x : Int) (w : Bool) : Ev (fun k => galleyref22_Kind.f k r x w) (kindOf r w) := by
 refine ⟨4, fun k hk => ?_⟩
 obtain ⟨m, rfl⟩ : ∃ m, k = 4 + m := ⟨k - 4, by omega⟩
 induction m with
 | zero => exact ref_kind r x w
 | succ m ih => exact galleyref22_Kind.mono r x w (4 + m) _ (ih (by omega))

end Go.Proofs.YtijbkiajhicooaaDoor.PW

namespace Go.Proofs.YtijbkiajhicooaaDoor.PW
open Go.RowKit Go.Proofs.YtijbkiajhicooaaDoorW.PrintWords Go.Proofs.YtijbkiajhicooaaDoorW.PrintLast Go.Proofs.YtijbkiajhicooaaDoorW.PrintMore
attribute [local go_sem] max2_int min2_int max_two min_two max_three min_three max_four min_four   -- for this text's walks alone
set_option linter.unusedVariables false
set_option linter.unusedSimpArgs false

theorem width_next {l : List Int} (hb : Bytes l) (hl : l.length ≤ 4398046511104) (p : Nat) (hp : p < l.length) : ((Utf8.decode (strOfNums l) p).2 : Int) = (ofL l p).2.1 ∧ p + (Utf8.decode (strOfNums l) p).2 ≤ l.length := by
 have h := (first_of hb p hp (by omega)).2
 obtain ⟨w1, w4, wl⟩ := widL_pos hb p hl hp
 refine ⟨h, ?_⟩
 have e : (ofL l p).2.1 = (widL l p : Int) := by
  unfold ofL widL
  by_cases g : longAt l (p : Int) = 0
  ·rw [if_pos g, if_pos g]; rfl
  ·rw [if_neg g, if_neg g]
   have := (longAt_facts hb p hl (by omega)).1
   show longAt l (p : Int) = _
   omega
 omega
theorem of22_l0 {l : List Int} (hb : Bytes l) (hl : l.length ≤ 4398046511103) : ∀ (n p : Nat) (pre : List S23) (ps ks : List Int), l.length - p = n → p ≤ l.length → pre.length ≤ p → ps.length ≤ p → ks.length ≤ p →
  Ev (fun k => galleyref22_Of.l0 k (pre ++ (stepsFrom (strOfNums l) p).map toS) (p : Int) (pre.length : Int) ps ks)
   (ps ++ ((stepsFrom (strOfNums l) p).map (·.1) ++ [(l.length : Int)]), ks ++ (stepsFrom (strOfNums l) p).map fun x => kindOf x.2.1 x.2.2.2) := by
 intro n
 induction n using Nat.strongRecOn with
 | _ n ih =>
  intro p pre ps ks hn hp h1 h2 h3
  by_cases hlt : p < l.length
  ·obtain ⟨hw, hwl⟩ := width_next hb (by omega) p hlt
   have hpos := decode_pos (strOfNums l) p (by rw [strOfNums_size]; exact hlt)
   rw [stepsFrom_cons _ _ (by rw [strOfNums_size]; exact hlt), (first_of hb p hlt (by omega)).1]
   generalize (Utf8.decode (strOfNums l) p).2 = d at *
   obtain ⟨⟨r, x, b⟩, hx⟩ : ∃ x, ofL l p = x := ⟨_, rfl⟩
   rw [hx] at hw ⊢
   replace hw : (d : Int) = x := hw
   have hrd : rd_T23 (pre ++ List.map toS (((p : Int), r, x, b) :: stepsFrom (strOfNums l) (p + d))) (pre.length : Int) = ⟨r, x, b⟩ := by
    unfold rd_T23
    rw [List.getD_eq_getElem?_getD, Int.toNat_natCast, List.getElem?_append_right (Nat.le_refl _)]
    simp [toS]
   have hn1 : wrap64 ((pre.length : Int) + 1) = ((pre ++ [toS ((p : Int), r, x, b)]).length : Int) := by rw [wrap64_small (by omega) (by omega)]; simp
   have hp1 : wrap64 ((p : Int) + x) = ((p + d : Nat) : Int) := by rw [wrap64_small (by omega) (by omega)]; omega
   have := ih (l.length - (p + d)) (by omega) (p + d) (pre ++ [toS ((p : Int), r, x, b)]) (ps ++ [(p : Int)]) (ks ++ [kindOf r b]) rfl (by omega) (by simp; omega) (by simp; omega) (by simp; omega)
   refine Ev.succ (h := fun k => (galleyref22_Kind.f k r x b).bind fun t => galleyref22_Of.l0 k (pre ++ List.map toS (((p : Int), r, x, b) :: stepsFrom (strOfNums l) (p + d))) ((p + d : Nat) : Int) ((pre ++ [toS ((p : Int), r, x, b)]).length : Int) (ps ++ [(p : Int)]) (ks ++ [t])) ?_ (fun k => ?_)
   ·refine Ev.bind (ref_kind_ev r x b) ?_
    simpa [List.append_assoc] using this
   ·rw [galleyref22_Of.l0, if_pos (by simp; omega), if_pos (by omega), hrd, hn1, hp1]
    congr 1
    funext t
    rw [if_pos (show ps.length < 17592186044416 by omega), if_pos (show ks.length < 17592186044416 by omega)]
  ·obtain rfl : p = l.length := by omega
   rw [stepsFrom_nil _ _ (by rw [strOfNums_size]; exact hlt)]
   refine Ev.succ (h := fun _ => some (ps ++ [(l.length : Int)], ks)) ?_ (fun k => ?_)
   ·simpa using Ev.pure (ps ++ [(l.length : Int)], ks)
   ·rw [galleyref22_Of.l0, if_neg (by simp), if_pos (show ps.length < 17592186044416 by omega)]

end Go.Proofs.YtijbkiajhicooaaDoor.PW

namespace Go.Proofs.YtijbkiajhicooaaDoor.PW
open Go.RowKit Go.Proofs.YtijbkiajhicooaaDoorW.PrintWords Go.Proofs.YtijbkiajhicooaaDoorW.PrintLast Go.Proofs.YtijbkiajhicooaaDoorW.PrintMore
attribute [local go_sem] max2_int min2_int max_two min_two max_three min_three max_four min_four   -- for this text's walks alone
set_option linter.unusedVariables false
set_option linter.unusedSimpArgs false

theorem ofL_wid {l : List Int} (hb : Bytes l) (hl : l.length ≤ 4398046511104) (p : Nat) (hp : p < l.length) : (ofL l p).2.1 = (widL l p : Int) := by
 unfold ofL widL
 by_cases g : longAt l (p : Int) = 0
 ·rw [if_pos g, if_pos g]; rfl
 ·rw [if_neg g, if_neg g]
  have := (longAt_facts hb p hl (by omega)).1
  show longAt l (p : Int) = _
  omega
theorem sf_cons {l : List Int} (hb : Bytes l) (hl : l.length ≤ 4398046511104) (p : Nat) (hp : p < l.length) :
  stepsFrom (strOfNums l) p = ((p : Int), ofL l p) :: stepsFrom (strOfNums l) (p + widL l p) := by
 have h := first_of hb p hp (by omega)
 have hw := ofL_wid hb hl p hp
 rw [stepsFrom_cons _ _ (by rw [strOfNums_size]; exact hp), h.1, show (Utf8.decode (strOfNums l) p).2 = widL l p by omega]
theorem sf_nil {l : List Int} (p : Nat) (hp : l.length ≤ p) : stepsFrom (strOfNums l) p = [] := stepsFrom_nil _ _ (by rw [strOfNums_size]; omega)
/-- A step's kind. -/
abbrev kOf (x : PStep) : Int := kindOf x.2.1 x.2.2.2
end Go.Proofs.YtijbkiajhicooaaDoor.PW

namespace Go.Proofs.YtijbkiajhicooaaDoor.PW
open Go.RowKit Go.Proofs.YtijbkiajhicooaaDoorW.PrintWords Go.Proofs.YtijbkiajhicooaaDoorW.PrintLast Go.Proofs.YtijbkiajhicooaaDoorW.PrintMore
attribute [local go_sem] max2_int min2_int max_two min_two max_three min_three max_four min_four   -- for this text's walks alone
set_option linter.unusedVariables false
set_option linter.unusedSimpArgs false

theorem rd_places {l : List Int} (hb : Bytes l) (hl : l.length ≤ 4398046511104) (pre : List PStep) (p : Nat) (hp : p ≤ l.length) :
  rd ((pre ++ stepsFrom (strOfNums l) p).map (·.1) ++ [(l.length : Int)]) (pre.length : Int) = (p : Int) := by
 unfold rd
 rw [List.getD_eq_getElem?_getD, Int.toNat_natCast]
 by_cases h : p < l.length
 ·rw [sf_cons hb hl p h]
  simp
 ·obtain rfl : p = l.length := by omega
  rw [sf_nil _ (Nat.le_refl _)]
  simp
theorem rd_kinds_at (pre : List PStep) (x : PStep) (rest : List PStep) : rd ((pre ++ x :: rest).map kOf) (pre.length : Int) = kOf x := by
 unfold rd
 rw [List.getD_eq_getElem?_getD, Int.toNat_natCast]
 simp
/-- The steps of a text. -/
abbrev stepsL (l : List Int) : List PStep := allSteps (strOfNums l)
theorem of22_ev {l : List Int} (hb : Bytes l) (hl : l.length ≤ 4398046511103) : Ev (fun k => galleyref22_Of.f k l) ((stepsL l).map (·.1) ++ [(l.length : Int)], (stepsL l).map kOf) := by
 have h := of22_l0 hb hl l.length 0 [] [] [] (by omega) (by omega) (by simp) (by simp) (by simp)
 simp only [List.nil_append] at h
 exact Ev.bind (ref_steps hb hl) h
end Go.Proofs.YtijbkiajhicooaaDoor.PW

namespace Go.Proofs.YtijbkiajhicooaaDoor.PW
open Go.RowKit Go.Proofs.YtijbkiajhicooaaDoorW.PrintWords Go.Proofs.YtijbkiajhicooaaDoorW.PrintLast Go.Proofs.YtijbkiajhicooaaDoorW.PrintMore
attribute [local go_sem] max2_int min2_int max_two min_two max_three min_three max_four min_four   -- for this text's walks alone
set_option linter.unusedVariables false
set_option linter.unusedSimpArgs false

theorem longOf_one {x y z w : Int} (h : isOne x) : longOf x y z w = 1 := by
 rcases longOf_cases x y z w with ⟨g, e⟩ | ⟨g, e⟩ | ⟨g, e⟩ | ⟨g, e⟩ | ⟨g, _⟩
 ·exact e
 ·unfold isOne at h; unfold isTwo at g; omega
 ·unfold isOne at h; unfold isThree at g; omega
 ·unfold isOne at h; unfold isFour at g; omega
 ·exact absurd h g
theorem longOf_two {x y z w : Int} (h : isTwo x y) : longOf x y z w = 2 := by
 rcases longOf_cases x y z w with ⟨g, e⟩ | ⟨g, e⟩ | ⟨g, e⟩ | ⟨g, e⟩ | ⟨_, g, _⟩
 ·unfold isTwo at h; unfold isOne at g; omega
 ·exact e
 ·unfold isTwo at h; unfold isThree at g; omega
 ·unfold isTwo at h; unfold isFour at g; omega
 ·exact absurd h g
theorem longOf_three {x y z w : Int} (h : isThree x y z) : longOf x y z w = 3 := by
 rcases longOf_cases x y z w with ⟨g, e⟩ | ⟨g, e⟩ | ⟨g, e⟩ | ⟨g, e⟩ | ⟨_, _, g, _⟩
 ·unfold isThree at h; unfold isOne at g; omega
 ·unfold isThree at h; unfold isTwo at g; omega
 ·exact e
 ·unfold isThree at h; unfold isFour at g; omega
 ·exact absurd h g
theorem longOf_none {x y z w : Int} (h1 : ¬ isOne x) (h2 : ¬ isTwo x y) (h3 : ¬ isThree x y z) (h4 : ¬ isFour x y z w) : longOf x y z w = 0 := by
 rcases longOf_cases x y z w with ⟨g, e⟩ | ⟨g, e⟩ | ⟨g, e⟩ | ⟨g, e⟩ | ⟨_, _, _, _, e⟩
 ·exact absurd g h1
 ·exact absurd g h2
 ·exact absurd g h3
 ·exact absurd g h4
 ·exact e
theorem atI_slice (l : List Int) (S E q : Nat) : atI ((l.take E).drop S) (q : Int) = if S + q < E then atI l (S + q : Nat) else -1 := by
 rw [atI_drop]
 by_cases h : S + q < E
 ·rw [if_pos h]
  unfold atI rd
  simp only [List.length_take, Int.toNat_natCast, List.getD_eq_getElem?_getD, List.getElem?_take]
  rw [if_pos h]
  by_cases g : S + q < l.length
  ·rw [if_neg (by omega), if_neg (by omega)]
  ·rw [if_pos (by omega), if_pos (by omega)]
 ·rw [if_neg h]
  exact atI_out _ _ (by simp; omega)
/-- The piece from S to E. -/
abbrev piece (l : List Int) (S E : Nat) : List Int := (l.take E).drop S
theorem piece_len (l : List Int) (S E : Nat) (h : E ≤ l.length) : (piece l S E).length = E - S := by simp; omega
theorem Bytes.piece {l : List Int} (h : Bytes l) (S E : Nat) : Bytes (piece l S E) := fun x hx => h x (List.mem_of_mem_take (List.mem_of_mem_drop hx))
theorem long_slice {l : List Int} (hb : Bytes l) (hl : l.length ≤ 4398046511104) (S E p : Nat) (hS : S ≤ p) (hp : p < E) (hE : E ≤ l.length) (hw : p + widL l p ≤ E) :
  longAt (piece l S E) ((p - S : Nat) : Int) = longAt l (p : Int) ∧ ofL (piece l S E) (p - S) = ofL l p := by
 have h0 := atI_slice l S E (p - S)
 have h1 := atI_slice l S E (p - S + 1)
 have h2 := atI_slice l S E (p - S + 2)
 have h3 := atI_slice l S E (p - S + 3)
 rw [if_pos (by omega), show S + (p - S) = p by omega] at h0
 rw [show S + (p - S + 1) = p + 1 by omega] at h1
 rw [show S + (p - S + 2) = p + 2 by omega] at h2
 rw [show S + (p - S + 3) = p + 3 by omega] at h3
 have hL := longAt_nat l p (by omega)
 have hL' := longAt_nat (piece l S E) (p - S) (by omega)
 obtain ⟨x, hx⟩ : ∃ x, atI l (p : Int) = x := ⟨_, rfl⟩
 obtain ⟨y, hy⟩ : ∃ x, atI l (p + 1 : Nat) = x := ⟨_, rfl⟩
 obtain ⟨z, hz⟩ : ∃ x, atI l (p + 2 : Nat) = x := ⟨_, rfl⟩
 obtain ⟨v, hv⟩ : ∃ x, atI l (p + 3 : Nat) = x := ⟨_, rfl⟩
 obtain ⟨y', hy'⟩ : ∃ x, atI (piece l S E) (p - S + 1 : Nat) = x := ⟨_, rfl⟩
 obtain ⟨z', hz'⟩ : ∃ x, atI (piece l S E) (p - S + 2 : Nat) = x := ⟨_, rfl⟩
 obtain ⟨v', hv'⟩ : ∃ x, atI (piece l S E) (p - S + 3 : Nat) = x := ⟨_, rfl⟩
 have hx' : atI (piece l S E) ((p - S : Nat) : Int) = x := h0.trans hx
 replace h1 := hy'.symm.trans h1
 replace h2 := hz'.symm.trans h2
 replace h3 := hv'.symm.trans h3
 rw [hy] at h1
 rw [hz] at h2
 rw [hv] at h3
 rw [hx, hy, hz, hv] at hL
 rw [hx', hy', hz', hv'] at hL'
 unfold widL at hw
 rw [hL] at hw
 unfold ofL
 rw [hL, hL', hx, hy, hz, hv, hx', hy', hz', hv']
 clear hL hL' hx hy hz hv hx' hy' hz' hv' h0
 rcases longOf_cases x y z v with ⟨g, e⟩ | ⟨g, e⟩ | ⟨g, e⟩ | ⟨g, e⟩ | ⟨g1, g2, g3, g4, e⟩
 ·have e' : longOf x y' z' v' = 1 := longOf_one g
  rw [e, e']
  refine ⟨rfl, ?_⟩
  unfold runeV
  rw [e, e']
  rfl
 ·rw [e, if_neg (by decide)] at hw
  replace hw : p + 2 ≤ E := hw
  rw [if_pos (by omega)] at h1
  subst h1
  have e' : longOf x y' z' v' = 2 := longOf_two g
  rw [e, e']
  refine ⟨rfl, ?_⟩
  unfold runeV
  rw [e, e']
  rfl
 ·rw [e, if_neg (by decide)] at hw
  replace hw : p + 3 ≤ E := hw
  rw [if_pos (by omega)] at h1 h2
  subst h1 h2
  have e' : longOf x y' z' v' = 3 := longOf_three g
  rw [e, e']
  refine ⟨rfl, ?_⟩
  unfold runeV
  rw [e, e']
  rfl
 ·rw [e, if_neg (by decide)] at hw
  replace hw : p + 4 ≤ E := hw
  rw [if_pos (by omega)] at h1 h2 h3
  subst h1 h2 h3
  exact ⟨rfl, rfl⟩
 ·have i1 : y' = y ∨ y' = -1 := by rw [h1]; split <;> simp
  have i2 : z' = z ∨ z' = -1 := by rw [h2]; split <;> simp
  have i3 : v' = v ∨ v' = -1 := by rw [h3]; split <;> simp
  have e' : longOf x y' z' v' = 0 := by
   unfold isTwo at g2
   unfold isThree at g3
   unfold isFour at g4
   refine longOf_none g1 ?_ ?_ ?_
   ·unfold isTwo; omega
   ·unfold isThree; omega
   ·unfold isFour; omega
  rw [e, e']
  exact ⟨rfl, rfl⟩
theorem wid_slice {l : List Int} (hb : Bytes l) (hl : l.length ≤ 4398046511104) (S E p : Nat) (hS : S ≤ p) (hp : p < E) (hE : E ≤ l.length) (hw : p + widL l p ≤ E) : widL (piece l S E) (p - S) = widL l p := by
 unfold widL
 rw [(long_slice hb hl S E p hS hp hE hw).1]
/-- E is an edge behind p: steps from p on come to it. -/
inductive Reach (l : List Int) (E : Nat) : Nat → Prop
 | here : Reach l E E
 | step {p : Nat} : p < E → E ≤ l.length → Reach l E (p + widL l p) → Reach l E p
theorem Reach.le {l : List Int} {E p : Nat} (h : Reach l E p) : p ≤ E := by
 induction h with
 | here => exact Nat.le_refl _
 | step h1 _ _ _ => omega
/-- A place where a step begins is come to from every such place ahead of it. -/
theorem reach_vis {l : List Int} (hb : Bytes l) (hl : l.length ≤ 4398046511104) (E : Nat) (hE : E ≤ l.length) (hv : Vis l E) : ∀ (n p : Nat), E - p = n → p ≤ E → Reach l E p := by
 intro n
 induction n using Nat.strongRecOn with
 | _ n ih =>
  intro p hn hp
  by_cases h : p = E
  ·subst h; exact .here
  ·obtain ⟨w1, w4, wl⟩ := widL_pos hb p hl (by omega)
   have : p + widL l p ≤ E := by
    refine Nat.le_of_not_lt fun hlt => ?_
    have h3 := hv (E - p) (by omega) (by omega) (by omega)
    rw [show E - (E - p) = p by omega] at h3
    have := longAt_facts hb p hl (by omega)
    unfold widL at hlt
    by_cases g : longAt l (p : Int) = 0
    ·rw [if_pos g] at hlt; omega
    ·rw [if_neg g] at hlt; omega
   exact .step (by omega) hE (ih (E - (p + widL l p)) (by omega) _ rfl this)

end Go.Proofs.YtijbkiajhicooaaDoor.PW

