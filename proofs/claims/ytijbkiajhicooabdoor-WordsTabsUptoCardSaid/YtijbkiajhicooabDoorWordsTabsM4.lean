-- Written by merge.py, a program of this session's: PWx46 PWx47 PWx48 PWx8
import Derived.Test.YtijbkiajhicooabDoorWordsTabsM1
import Derived.Test.YtijbkiajhicooabDoorWordsTabsM2
import Derived.Test.YtijbkiajhicooabDoorWordsTabsM3
namespace Go.Proofs.YtijbkiajhicooabDoor.PW
open Go.RowKit Go.Proofs.YtijbkiajhicooabDoorW.PrintWords Go.Proofs.YtijbkiajhicooabDoorW.PrintLast Go.Proofs.YtijbkiajhicooabDoorW.PrintMore
attribute [local go_sem] max2_int min2_int max_two min_two max_three min_three max_four min_four   -- for this text's walks alone
set_option linter.unusedVariables false
set_option linter.unusedSimpArgs false

mutual
def galleyref07_Rows.l0 : Nat → List Int → List (S62) → Int → Int → Option ((List (S62)))
 | 0, _, _, _, _ => none
 | k + 1, x0, x3, x4, x5 => if x5 < (x0.length : Int) then (if 0 ≤ x5 then (if (rd x0 x5) = 13 then (galleyref07_Rows.j1 k x0 x3 x4 x5 false) else (galleyref07_Rows.j1 k x0 x3 x4 x5 ((rd x0 x5) != 10))) else (none)) else (if x3.length < 5864062014805 then (some (x3 ++ [(⟨x4, (x0.length : Int), (x0.length : Int)⟩ : S62)])) else (none))
def galleyref07_Rows.j1 : Nat → List Int → List (S62) → Int → Int → Bool → Option ((List (S62)))
 | 0, _, _, _, _, _ => none
 | k + 1, x0, x3, x4, x5, x24 => if x24 = true then (galleyref07_Rows.l0 k x0 x3 x4 (wrap64 (x5 + 1))) else (if 0 ≤ x5 then (if x5 < (x0.length : Int) then (if (rd x0 x5) = 13 then (if (wrap64 (x5 + 1)) < (x0.length : Int) then (if 0 ≤ (wrap64 (x5 + 1)) then (if (rd x0 (wrap64 (x5 + 1))) = 10 then (if x3.length < 5864062014805 then (galleyref07_Rows.l0 k x0 (x3 ++ [(⟨x4, x5, wrap64 ((wrap64 (x5 + 1)) + 1)⟩ : S62)]) (wrap64 ((wrap64 (x5 + 1)) + 1)) (wrap64 ((wrap64 ((wrap64 ((wrap64 (x5 + 1)) + 1)) - 1)) + 1))) else (none)) else (if x3.length < 5864062014805 then (galleyref07_Rows.l0 k x0 (x3 ++ [(⟨x4, x5, wrap64 (x5 + 1)⟩ : S62)]) (wrap64 (x5 + 1)) (wrap64 ((wrap64 ((wrap64 (x5 + 1)) - 1)) + 1))) else (none))) else (none)) else (if x3.length < 5864062014805 then (galleyref07_Rows.l0 k x0 (x3 ++ [(⟨x4, x5, wrap64 (x5 + 1)⟩ : S62)]) (wrap64 (x5 + 1)) (wrap64 ((wrap64 ((wrap64 (x5 + 1)) - 1)) + 1))) else (none))) else (if x3.length < 5864062014805 then (galleyref07_Rows.l0 k x0 (x3 ++ [(⟨x4, x5, wrap64 (x5 + 1)⟩ : S62)]) (wrap64 (x5 + 1)) (wrap64 ((wrap64 ((wrap64 (x5 + 1)) - 1)) + 1))) else (none))) else (none)) else (none))
end
def galleyref07_Rows.f (k : Nat) (l0 : List Int) : Option ((List (S62))) := galleyref07_Rows.l0 k l0 ([] : List (S62)) 0 0
set_option maxHeartbeats 8000000 in
set_option maxRecDepth 100000 in
theorem galleyref07_Rows.calls (k : Nat) (A0 : Option Addr) (c0 : Nat) (l0 : List Int) (r : List (S62)) (w : World) (hr0 : Kd.C (Kd.int .u8) w A0 l0.length l0) (hc0 : l0.length ≤ c0) (h : galleyref07_Rows.f k l0 = some r) :
  Calls Tryd.prog 27 #[.slice A0 l0.length c0] w fun e w' => ∃ v0_ : Value, e = .returned (v0_) ∧ Kd.R k62 62 w' w.heap.size (fun _ => True) v0_ r ∧ Below w.heap.size w w' := by
 have hu62 := Tryd.underlying62
 have HR0 := Aside0.mk hr0
 have HC0 := Aside0.mk hc0
 clear hr0 hc0
 have HB := Aside0.mk (Below.refl w.heap.size w)
 have H : (galleyref07_Rows.l0 k l0 ([] : List (S62)) 0 0) = some r := h
 clear h
 have H' := Aside0.mk H
 clear H
 go_enter Tryd.func27, Tryd.ntmps27
 go_wp2
 go_loopg [3, 4, 5] k (fun kq v3 v4 v5 w' => ∃ (x3_1 : List (S62)) (x4_1 : Int) (x5_1 : Int), v4 = .int .i64 x4_1 ∧ v5 = .int .i64 x5_1 ∧ Aside0 (galleyref07_Rows.l0 kq l0 x3_1 x4_1 x5_1 = some r) ∧ Aside0 (kq ≤ k) ∧ Aside0 (Kd.R k62 62 w' w.heap.size (fun _ => True) v3 x3_1) ∧ Aside0 (Below w.heap.size w w'))
 case atStart => exact ⟨(([] : List (S62))), (0), (0), (by first | rfl | (simp; done) | (simp [*]; done)), (by first | rfl | (simp; done) | (simp [*]; done)), H', ⟨Nat.le_refl _⟩, ⟨by first | exact Kd.R_nil _ _ _ _ _ | exact Kd.N_nil _ _ _ _ _ | exact Kd.V_nil _ _ _ _ _ | exact Kd.Q_nil _ _ _ _ _ | exact Kd.S_nil _ _ _ _ _⟩, ⟨by repeat (first | (with_reducible first | exact HB.out | apply below_alloc | apply pw_below_drewN | apply below_drew1) | exact HB.out)⟩⟩
 case round =>
  clear H'
  obtain ⟨x3_1, x4_1, x5_1, rfl, rfl, HA, HK1, HO_3, HB⟩ := hrel
  cases gk with
  | zero => exact absurd HA.out (by simp [galleyref07_Rows.l0])
  | succ k1 =>
   have H := HA.out
   clear HA
   simp only [galleyref07_Rows.l0] at H
   by_cases c2 : x5_1 < (l0.length : Int)
   ·rw [if_pos c2] at H
    have c2b0 : decide (x5_1 < (l0.length : Int)) = true := decide_eq_true c2
    clear c2
    have HC3 := Aside0.mk H
    clear H
    go_upto_region 6 with (fail)
    go_cut [24] (fun v24 wc => ∃ (kq : Nat) (x24_2 : Bool), v24 = .bool x24_2 ∧ Aside0 (galleyref07_Rows.j1 kq l0 x3_1 x4_1 x5_1 x24_2 = some r) ∧ Aside0 (kq ≤ k1) ∧ Aside0 (Kd.R k62 62 wc w.heap.size (fun _ => True) u3 x3_1) ∧ Aside0 (Below w.heap.size w wc))
    case first =>
     have H := HC3.out
     clear HC3
     by_cases c4 : 0 ≤ x5_1
     ·rw [if_pos c4] at H
      have c4b0 : decide (0 ≤ x5_1) = true := decide_eq_true c4
      clear c4
      (first | rw [c4b0] | (simp only [i64_w, i32_w]; rw [c4b0]) | skip)
      by_cases c5 : (rd l0 x5_1) = 13
      ·rw [if_pos c5] at H
       have c5b0 : ((rd l0 x5_1) == 13) = true := beq_iff_eq.mpr c5
       have c5b1 : ((rd l0 x5_1) != 13) = false := bne_eq_false_iff_eq.mpr c5
       clear c5
       have H' := Aside0.mk H
       clear H
       have p263 : 0 ≤ (x5_1 : Int) := of_decide_eq_true (by first | (with_reducible assumption) | assumption)
       have q263 : x5_1 < (l0.length : Int) := of_decide_eq_true (by first | (with_reducible assumption) | assumption)
       obtain ⟨ad263, e263, hx263_0⟩ := Kd.at_int HR0.out x5_1 p263 q263
       cases e263
       replace hx263_0 := (HB.out.cell (World.block_lt_of_cell? w _ hx263_0)).trans hx263_0
       replace p263 := eq_true p263
       replace q263 := eq_true q263
       go_wp2
       go_meet
       case rel => exact ⟨_, (false), (by first | rfl | (simp; done) | (simp [*]; done)), H', ⟨by have := HK1.out; first | omega | exact Nat.le_refl _⟩, ⟨by (with_reducible repeat (first | apply Kd.R_alloc | apply Kd.R_drewN | apply Kd.R_drew)); exact HO_3.out⟩, ⟨by repeat (first | (with_reducible first | exact HB.out | apply below_alloc | apply pw_below_drewN | apply below_drew1) | exact HB.out)⟩⟩
      ·rw [if_neg c5] at H
       have c5b0 : ((rd l0 x5_1) == 13) = false := beq_eq_false_iff_ne.mpr c5
       have c5b1 : ((rd l0 x5_1) != 13) = true := bne_iff_ne.mpr c5
       have H' := Aside0.mk H
       clear H
       have p263 : 0 ≤ (x5_1 : Int) := of_decide_eq_true (by first | (with_reducible assumption) | assumption)
       have q263 : x5_1 < (l0.length : Int) := of_decide_eq_true (by first | (with_reducible assumption) | assumption)
       obtain ⟨ad263, e263, hx263_0⟩ := Kd.at_int HR0.out x5_1 p263 q263
       cases e263
       replace hx263_0 := (HB.out.cell (World.block_lt_of_cell? w _ hx263_0)).trans hx263_0
       replace p263 := eq_true p263
       replace q263 := eq_true q263
       have p264 : 0 ≤ (x5_1 : Int) := of_decide_eq_true (by first | (with_reducible assumption) | assumption)
       have q264 : x5_1 < (l0.length : Int) := of_decide_eq_true (by first | (with_reducible assumption) | assumption)
       obtain ⟨ad264, e264, hx264_0⟩ := Kd.at_int HR0.out x5_1 p264 q264
       obtain rfl : ad263 = ad264 := (by injection e264)
       replace hx264_0 := (HB.out.cell (World.block_lt_of_cell? w _ hx264_0)).trans hx264_0
       replace p264 := eq_true p264
       replace q264 := eq_true q264
       go_wp2
       go_meet
       case rel => exact ⟨_, (((rd l0 x5_1) != 10)), (by first | rfl | (simp; done) | (simp [*]; done)), H', ⟨by have := HK1.out; first | omega | exact Nat.le_refl _⟩, ⟨by (with_reducible repeat (first | apply Kd.R_alloc | apply Kd.R_drewN | apply Kd.R_drew)); exact HO_3.out⟩, ⟨by repeat (first | (with_reducible first | exact HB.out | apply below_alloc | apply pw_below_drewN | apply below_drew1) | exact HB.out)⟩⟩
     ·rw [if_neg c4] at H
      exact absurd H (by simp)
    case rest =>
     clear HC3
     try clear c2
     try clear c2b0
     try clear p2
     try clear q2
     try clear hx2
     try clear c4
     try clear c4b0
     try clear c5
     try clear c5b0
     try clear c5b1
     try clear hx263_0
     try clear hx264_0
     try clear p263
     try clear p264
     try clear q263
     try clear q264
     obtain ⟨kq, x24_2, rfl, HA, HJ2, HO_3, HB⟩ := hcut
     cases kq with
     | zero => exact absurd HA.out (by simp [galleyref07_Rows.j1])
     | succ kj2 =>
      have H := HA.out
      clear HA
      simp only [galleyref07_Rows.j1] at H
      by_cases c6 : x24_2 = true
      ·subst c6
       have H1 : (galleyref07_Rows.l0 kj2 l0 x3_1 x4_1 (wrap64 (x5_1 + 1))) = some r := by rw [if_pos rfl] at H; exact H
       clear H
       have H := H1
       clear H1
       have H' := Aside0.mk H
       clear H
       go_wp2
       go_roundg kj2
       case measure => have := HK1.out; have := HJ2.out; omega
       case rel => exact ⟨(x3_1), (x4_1), (wrap64 (x5_1 + 1)), (by first | rfl | (simp; done) | (simp [*]; done)), (by first | rfl | (simp; done) | (simp [*]; done)), H', ⟨by have := HK1.out; have := HJ2.out; omega⟩, ⟨by (with_reducible repeat (first | apply Kd.R_alloc | apply Kd.R_drewN | apply Kd.R_drew)); exact HO_3.out⟩, ⟨by repeat (first | (with_reducible first | exact HB.out | apply below_alloc | apply pw_below_drewN | apply below_drew1) | exact HB.out)⟩⟩
      ·replace c6 := Bool.eq_false_iff.mpr c6
       subst c6
       have H1 : (if 0 ≤ x5_1 then (if x5_1 < (l0.length : Int) then (if (rd l0 x5_1) = 13 then (if (wrap64 (x5_1 + 1)) < (l0.length : Int) then (if 0 ≤ (wrap64 (x5_1 + 1)) then (if (rd l0 (wrap64 (x5_1 + 1))) = 10 then (if x3_1.length < 5864062014805 then (galleyref07_Rows.l0 kj2 l0 (x3_1 ++ [(⟨x4_1, x5_1, wrap64 ((wrap64 (x5_1 + 1)) + 1)⟩ : S62)]) (wrap64 ((wrap64 (x5_1 + 1)) + 1)) (wrap64 ((wrap64 ((wrap64 ((wrap64 (x5_1 + 1)) + 1)) - 1)) + 1))) else (none)) else (if x3_1.length < 5864062014805 then (galleyref07_Rows.l0 kj2 l0 (x3_1 ++ [(⟨x4_1, x5_1, wrap64 (x5_1 + 1)⟩ : S62)]) (wrap64 (x5_1 + 1)) (wrap64 ((wrap64 ((wrap64 (x5_1 + 1)) - 1)) + 1))) else (none))) else (none)) else (if x3_1.length < 5864062014805 then (galleyref07_Rows.l0 kj2 l0 (x3_1 ++ [(⟨x4_1, x5_1, wrap64 (x5_1 + 1)⟩ : S62)]) (wrap64 (x5_1 + 1)) (wrap64 ((wrap64 ((wrap64 (x5_1 + 1)) - 1)) + 1))) else (none))) else (if x3_1.length < 5864062014805 then (galleyref07_Rows.l0 kj2 l0 (x3_1 ++ [(⟨x4_1, x5_1, wrap64 (x5_1 + 1)⟩ : S62)]) (wrap64 (x5_1 + 1)) (wrap64 ((wrap64 ((wrap64 (x5_1 + 1)) - 1)) + 1))) else (none))) else (none)) else (none)) = some r := by rw [if_neg (show ¬ (false = true) by decide)] at H; exact H
       clear H
       have H := H1
       clear H1
       by_cases c7 : 0 ≤ x5_1
       ·rw [if_pos c7] at H
        have c7b0 : decide (0 ≤ x5_1) = true := decide_eq_true c7
        clear c7
        by_cases c8 : x5_1 < (l0.length : Int)
        ·rw [if_pos c8] at H
         have c8b0 : decide (x5_1 < (l0.length : Int)) = true := decide_eq_true c8
         clear c8
         by_cases c9 : (rd l0 x5_1) = 13
         ·rw [if_pos c9] at H
          have c9b0 : ((rd l0 x5_1) == 13) = true := beq_iff_eq.mpr c9
          have c9b1 : ((rd l0 x5_1) != 13) = false := bne_eq_false_iff_eq.mpr c9
          clear c9
          by_cases c10 : (wrap64 (x5_1 + 1)) < (l0.length : Int)
          ·rw [if_pos c10] at H
           have c10b0 : decide ((wrap64 (x5_1 + 1)) < (l0.length : Int)) = true := decide_eq_true c10
           clear c10
           obtain ⟨ji11, hji11⟩ : ∃ j_ : Int, (wrap64 (x5_1 + 1)) = j_ := ⟨_, rfl⟩
           replace H : (if 0 ≤ (ji11) then (if (rd l0 (ji11)) = 10 then (if x3_1.length < 5864062014805 then (galleyref07_Rows.l0 kj2 l0 (x3_1 ++ [(⟨x4_1, x5_1, wrap64 ((ji11) + 1)⟩ : S62)]) (wrap64 ((ji11) + 1)) (wrap64 ((wrap64 ((wrap64 ((ji11) + 1)) - 1)) + 1))) else (none)) else (if x3_1.length < 5864062014805 then (galleyref07_Rows.l0 kj2 l0 (x3_1 ++ [(⟨x4_1, x5_1, ji11⟩ : S62)]) ji11 (wrap64 ((wrap64 ((ji11) - 1)) + 1))) else (none))) else (none)) = some r := by first | (rw [hji11] at H; exact H) | (simp only [hji11] at H ⊢; exact H)
           (try rw [hji11] at c10b0)
           have hji11w : (IntKind.i64.wrap (x5_1 + 1)) = ji11 := (i64_w _).trans hji11
           by_cases c12 : 0 ≤ (ji11)
           ·rw [if_pos c12] at H
            have c12b0 : decide (0 ≤ (ji11)) = true := decide_eq_true c12
            clear c12
            by_cases c13 : (rd l0 (ji11)) = 10
            ·rw [if_pos c13] at H
             have c13b0 : ((rd l0 (ji11)) == 10) = true := beq_iff_eq.mpr c13
             have c13b1 : ((rd l0 (ji11)) != 10) = false := bne_eq_false_iff_eq.mpr c13
             clear c13
             by_cases c14 : x3_1.length < 5864062014805
             ·rw [if_pos c14] at H
              have LMc14 := Aside0.mk c14
              clear c14
              obtain ⟨y267, hy267⟩ : ∃ y_ : List (S62), y_ = (x3_1 ++ [(⟨x4_1, x5_1, wrap64 ((ji11) + 1)⟩ : S62)]) := ⟨_, rfl⟩
              replace H : (galleyref07_Rows.l0 kj2 l0 y267 (wrap64 ((ji11) + 1)) (wrap64 ((wrap64 ((wrap64 ((ji11) + 1)) - 1)) + 1))) = some r := by first | (rw [hy267]; with_reducible exact H) | (have H2_ := (Option.bind_some _ _).symm.trans H; rw [hy267]; with_reducible exact H2_) | (have H2_ := (Option.bind_some _ _).symm.trans H; with_reducible exact H2_) | with_reducible exact H | (rw [hy267]; exact H) | exact H
              have Ny267 := Aside0.mk hy267
              clear hy267
              have H' := Aside0.mk H
              clear H
              have p265 : 0 ≤ (x5_1 : Int) := of_decide_eq_true (by first | (with_reducible assumption) | assumption)
              have q265 : x5_1 < (l0.length : Int) := of_decide_eq_true (by first | (with_reducible assumption) | assumption)
              obtain ⟨ad265, e265, hx265_0⟩ := Kd.at_int HR0.out x5_1 p265 q265
              cases e265
              replace hx265_0 := (HB.out.cell (World.block_lt_of_cell? w _ hx265_0)).trans hx265_0
              replace p265 := eq_true p265
              replace q265 := eq_true q265
              have p266 : 0 ≤ ((ji11) : Int) := of_decide_eq_true (by first | (with_reducible assumption) | assumption)
              have q266 : (ji11) < (l0.length : Int) := of_decide_eq_true (by first | (with_reducible assumption) | assumption)
              obtain ⟨ad266, e266, hx266_0⟩ := Kd.at_int HR0.out (ji11) p266 q266
              obtain rfl : ad265 = ad266 := (by injection e266)
              replace hx266_0 := (HB.out.cell (World.block_lt_of_cell? w _ hx266_0)).trans hx266_0
              replace p266 := eq_true p266
              replace q266 := eq_true q266
              go_wp2_with (first | ((with_reducible refine gate_builtin (b := .append) (xs := #[.tmp 47, .tmp 52]) rfl ?_); (try (refine gate_guard (by rfl) ?_; dsimp only)); at_builtin; refine Kd.R_append k62 (w0 := w) w.heap.size rfl (.tmp 47) (.tmp 52) 59 62 (.agg #[(.int .i64 0), (.int .i64 0), (.int .i64 0)]) 24 rfl Tryd.underlying59 info62 rfl (by decide) (by omega) u3 x3_1 (⟨x4_1, x5_1, wrap64 ((ji11) + 1)⟩ : S62) [.int .i64 x4_1, .int .i64 x5_1, .int .i64 (wrap64 ((ji11) + 1))] (fun _ => True) (fun _ => False) rfl rfl ?aP (fun _ hk => hk.elim) ?aF ?aO ?aB ?aS ?aL ?_; (case aP => exact k62_mkM _ _ _ (⟨x4_1, x5_1, wrap64 ((ji11) + 1)⟩ : S62)); (case aB => exact (by repeat (first | (with_reducible first | exact HB.out | apply below_alloc | apply pw_below_drewN | apply below_drew1) | exact HB.out))); (case aF => exact (fun _ _ => trivial)); (case aO => exact (by (with_reducible repeat (first | apply Kd.R_alloc | apply Kd.R_drewN | apply Kd.R_drew)); exact HO_3.out)); (case aS => exact (below_size (by repeat (first | (with_reducible first | exact HB.out | apply below_alloc | apply pw_below_drewN | apply below_drew1) | exact HB.out)))); (case aL => have := LMc14.out; omega); intro v268 w15 ho hb hg hat; rw [← Ny267.out] at ho; have n0_ := Aside0.mk (hb); have n1_ := Aside0.mk (ho); clear HB; clear HO_3; have HB := n0_; have HO269 := n1_; clear n0_ n1_; clear ho hb hg hat))
              go_roundg kj2
              case measure => have := HK1.out; have := HJ2.out; omega
              case rel => exact ⟨(y267), (wrap64 ((ji11) + 1)), (wrap64 ((wrap64 ((wrap64 ((ji11) + 1)) - 1)) + 1)), (by first | rfl | (simp; done) | (simp only [← hji11] <;> (first | rfl | simp)) | (simp [*]; done)), (by first | rfl | (simp; done) | (simp only [← hji11] <;> (first | rfl | simp)) | (simp [*]; done)), H', ⟨by have := HK1.out; have := HJ2.out; omega⟩, ⟨by (with_reducible repeat (first | apply Kd.R_alloc | apply Kd.R_drewN | apply Kd.R_drew)); exact HO269.out⟩, ⟨by repeat (first | (with_reducible first | exact HB.out | apply below_alloc | apply pw_below_drewN | apply below_drew1) | exact HB.out)⟩⟩
             ·rw [if_neg c14] at H
              exact absurd H (by simp)
            ·rw [if_neg c13] at H
             have c13b0 : ((rd l0 (ji11)) == 10) = false := beq_eq_false_iff_ne.mpr c13
             have c13b1 : ((rd l0 (ji11)) != 10) = true := bne_iff_ne.mpr c13
             by_cases c16 : x3_1.length < 5864062014805
             ·rw [if_pos c16] at H
              have LMc16 := Aside0.mk c16
              clear c16
              obtain ⟨y270, hy270⟩ : ∃ y_ : List (S62), y_ = (x3_1 ++ [(⟨x4_1, x5_1, ji11⟩ : S62)]) := ⟨_, rfl⟩
              replace H : (galleyref07_Rows.l0 kj2 l0 y270 ji11 (wrap64 ((wrap64 ((ji11) - 1)) + 1))) = some r := by first | (rw [hy270]; with_reducible exact H) | (have H2_ := (Option.bind_some _ _).symm.trans H; rw [hy270]; with_reducible exact H2_) | (have H2_ := (Option.bind_some _ _).symm.trans H; with_reducible exact H2_) | with_reducible exact H | (rw [hy270]; exact H) | exact H
              have Ny270 := Aside0.mk hy270
              clear hy270
              have H' := Aside0.mk H
              clear H
              have p265 : 0 ≤ (x5_1 : Int) := of_decide_eq_true (by first | (with_reducible assumption) | assumption)
              have q265 : x5_1 < (l0.length : Int) := of_decide_eq_true (by first | (with_reducible assumption) | assumption)
              obtain ⟨ad265, e265, hx265_0⟩ := Kd.at_int HR0.out x5_1 p265 q265
              cases e265
              replace hx265_0 := (HB.out.cell (World.block_lt_of_cell? w _ hx265_0)).trans hx265_0
              replace p265 := eq_true p265
              replace q265 := eq_true q265
              have p266 : 0 ≤ ((ji11) : Int) := of_decide_eq_true (by first | (with_reducible assumption) | assumption)
              have q266 : (ji11) < (l0.length : Int) := of_decide_eq_true (by first | (with_reducible assumption) | assumption)
              obtain ⟨ad266, e266, hx266_0⟩ := Kd.at_int HR0.out (ji11) p266 q266
              obtain rfl : ad265 = ad266 := (by injection e266)
              replace hx266_0 := (HB.out.cell (World.block_lt_of_cell? w _ hx266_0)).trans hx266_0
              replace p266 := eq_true p266
              replace q266 := eq_true q266
              go_wp2_with (first | ((with_reducible refine gate_builtin (b := .append) (xs := #[.tmp 47, .tmp 52]) rfl ?_); (try (refine gate_guard (by rfl) ?_; dsimp only)); at_builtin; refine Kd.R_append k62 (w0 := w) w.heap.size rfl (.tmp 47) (.tmp 52) 59 62 (.agg #[(.int .i64 0), (.int .i64 0), (.int .i64 0)]) 24 rfl Tryd.underlying59 info62 rfl (by decide) (by omega) u3 x3_1 (⟨x4_1, x5_1, ji11⟩ : S62) [.int .i64 x4_1, .int .i64 x5_1, .int .i64 ji11] (fun _ => True) (fun _ => False) rfl rfl ?aP (fun _ hk => hk.elim) ?aF ?aO ?aB ?aS ?aL ?_; (case aP => exact k62_mkM _ _ _ (⟨x4_1, x5_1, ji11⟩ : S62)); (case aB => exact (by repeat (first | (with_reducible first | exact HB.out | apply below_alloc | apply pw_below_drewN | apply below_drew1) | exact HB.out))); (case aF => exact (fun _ _ => trivial)); (case aO => exact (by (with_reducible repeat (first | apply Kd.R_alloc | apply Kd.R_drewN | apply Kd.R_drew)); exact HO_3.out)); (case aS => exact (below_size (by repeat (first | (with_reducible first | exact HB.out | apply below_alloc | apply pw_below_drewN | apply below_drew1) | exact HB.out)))); (case aL => have := LMc16.out; omega); intro v271 w17 ho hb hg hat; rw [← Ny270.out] at ho; have n0_ := Aside0.mk (hb); have n1_ := Aside0.mk (ho); clear HB; clear HO_3; have HB := n0_; have HO272 := n1_; clear n0_ n1_; clear ho hb hg hat))
              go_roundg kj2
              case measure => have := HK1.out; have := HJ2.out; omega
              case rel => exact ⟨(y270), (ji11), (wrap64 ((wrap64 ((ji11) - 1)) + 1)), (by first | rfl | (simp; done) | (simp only [← hji11] <;> (first | rfl | simp)) | (simp [*]; done)), (by first | rfl | (simp; done) | (simp only [← hji11] <;> (first | rfl | simp)) | (simp [*]; done)), H', ⟨by have := HK1.out; have := HJ2.out; omega⟩, ⟨by (with_reducible repeat (first | apply Kd.R_alloc | apply Kd.R_drewN | apply Kd.R_drew)); exact HO272.out⟩, ⟨by repeat (first | (with_reducible first | exact HB.out | apply below_alloc | apply pw_below_drewN | apply below_drew1) | exact HB.out)⟩⟩
             ·rw [if_neg c16] at H
              exact absurd H (by simp)
           ·rw [if_neg c12] at H
            exact absurd H (by simp)
          ·rw [if_neg c10] at H
           have c10b0 : decide ((wrap64 (x5_1 + 1)) < (l0.length : Int)) = false := decide_eq_false c10
           clear c10
           by_cases c18 : x3_1.length < 5864062014805
           ·rw [if_pos c18] at H
            have LMc18 := Aside0.mk c18
            clear c18
            obtain ⟨y273, hy273⟩ : ∃ y_ : List (S62), y_ = (x3_1 ++ [(⟨x4_1, x5_1, wrap64 (x5_1 + 1)⟩ : S62)]) := ⟨_, rfl⟩
            replace H : (galleyref07_Rows.l0 kj2 l0 y273 (wrap64 (x5_1 + 1)) (wrap64 ((wrap64 ((wrap64 (x5_1 + 1)) - 1)) + 1))) = some r := by first | (rw [hy273]; with_reducible exact H) | (have H2_ := (Option.bind_some _ _).symm.trans H; rw [hy273]; with_reducible exact H2_) | (have H2_ := (Option.bind_some _ _).symm.trans H; with_reducible exact H2_) | with_reducible exact H | (rw [hy273]; exact H) | exact H
            have Ny273 := Aside0.mk hy273
            clear hy273
            have H' := Aside0.mk H
            clear H
            have p265 : 0 ≤ (x5_1 : Int) := of_decide_eq_true (by first | (with_reducible assumption) | assumption)
            have q265 : x5_1 < (l0.length : Int) := of_decide_eq_true (by first | (with_reducible assumption) | assumption)
            obtain ⟨ad265, e265, hx265_0⟩ := Kd.at_int HR0.out x5_1 p265 q265
            cases e265
            replace hx265_0 := (HB.out.cell (World.block_lt_of_cell? w _ hx265_0)).trans hx265_0
            replace p265 := eq_true p265
            replace q265 := eq_true q265
            go_wp2_with (first | ((with_reducible refine gate_builtin (b := .append) (xs := #[.tmp 47, .tmp 52]) rfl ?_); (try (refine gate_guard (by rfl) ?_; dsimp only)); at_builtin; refine Kd.R_append k62 (w0 := w) w.heap.size rfl (.tmp 47) (.tmp 52) 59 62 (.agg #[(.int .i64 0), (.int .i64 0), (.int .i64 0)]) 24 rfl Tryd.underlying59 info62 rfl (by decide) (by omega) u3 x3_1 (⟨x4_1, x5_1, wrap64 (x5_1 + 1)⟩ : S62) [.int .i64 x4_1, .int .i64 x5_1, .int .i64 (wrap64 (x5_1 + 1))] (fun _ => True) (fun _ => False) rfl rfl ?aP (fun _ hk => hk.elim) ?aF ?aO ?aB ?aS ?aL ?_; (case aP => exact k62_mkM _ _ _ (⟨x4_1, x5_1, wrap64 (x5_1 + 1)⟩ : S62)); (case aB => exact (by repeat (first | (with_reducible first | exact HB.out | apply below_alloc | apply pw_below_drewN | apply below_drew1) | exact HB.out))); (case aF => exact (fun _ _ => trivial)); (case aO => exact (by (with_reducible repeat (first | apply Kd.R_alloc | apply Kd.R_drewN | apply Kd.R_drew)); exact HO_3.out)); (case aS => exact (below_size (by repeat (first | (with_reducible first | exact HB.out | apply below_alloc | apply pw_below_drewN | apply below_drew1) | exact HB.out)))); (case aL => have := LMc18.out; omega); intro v274 w19 ho hb hg hat; rw [← Ny273.out] at ho; have n0_ := Aside0.mk (hb); have n1_ := Aside0.mk (ho); clear HB; clear HO_3; have HB := n0_; have HO275 := n1_; clear n0_ n1_; clear ho hb hg hat))
            go_roundg kj2
            case measure => have := HK1.out; have := HJ2.out; omega
            case rel => exact ⟨(y273), (wrap64 (x5_1 + 1)), (wrap64 ((wrap64 ((wrap64 (x5_1 + 1)) - 1)) + 1)), (by first | rfl | (simp; done) | (simp [*]; done)), (by first | rfl | (simp; done) | (simp [*]; done)), H', ⟨by have := HK1.out; have := HJ2.out; omega⟩, ⟨by (with_reducible repeat (first | apply Kd.R_alloc | apply Kd.R_drewN | apply Kd.R_drew)); exact HO275.out⟩, ⟨by repeat (first | (with_reducible first | exact HB.out | apply below_alloc | apply pw_below_drewN | apply below_drew1) | exact HB.out)⟩⟩
           ·rw [if_neg c18] at H
            exact absurd H (by simp)
         ·rw [if_neg c9] at H
          have c9b0 : ((rd l0 x5_1) == 13) = false := beq_eq_false_iff_ne.mpr c9
          have c9b1 : ((rd l0 x5_1) != 13) = true := bne_iff_ne.mpr c9
          by_cases c20 : x3_1.length < 5864062014805
          ·rw [if_pos c20] at H
           have LMc20 := Aside0.mk c20
           clear c20
           obtain ⟨y276, hy276⟩ : ∃ y_ : List (S62), y_ = (x3_1 ++ [(⟨x4_1, x5_1, wrap64 (x5_1 + 1)⟩ : S62)]) := ⟨_, rfl⟩
           replace H : (galleyref07_Rows.l0 kj2 l0 y276 (wrap64 (x5_1 + 1)) (wrap64 ((wrap64 ((wrap64 (x5_1 + 1)) - 1)) + 1))) = some r := by first | (rw [hy276]; with_reducible exact H) | (have H2_ := (Option.bind_some _ _).symm.trans H; rw [hy276]; with_reducible exact H2_) | (have H2_ := (Option.bind_some _ _).symm.trans H; with_reducible exact H2_) | with_reducible exact H | (rw [hy276]; exact H) | exact H
           have Ny276 := Aside0.mk hy276
           clear hy276
           have H' := Aside0.mk H
           clear H
           have p265 : 0 ≤ (x5_1 : Int) := of_decide_eq_true (by first | (with_reducible assumption) | assumption)
           have q265 : x5_1 < (l0.length : Int) := of_decide_eq_true (by first | (with_reducible assumption) | assumption)
           obtain ⟨ad265, e265, hx265_0⟩ := Kd.at_int HR0.out x5_1 p265 q265
           cases e265
           replace hx265_0 := (HB.out.cell (World.block_lt_of_cell? w _ hx265_0)).trans hx265_0
           replace p265 := eq_true p265
           replace q265 := eq_true q265
           go_wp2_with (first | ((with_reducible refine gate_builtin (b := .append) (xs := #[.tmp 47, .tmp 52]) rfl ?_); (try (refine gate_guard (by rfl) ?_; dsimp only)); at_builtin; refine Kd.R_append k62 (w0 := w) w.heap.size rfl (.tmp 47) (.tmp 52) 59 62 (.agg #[(.int .i64 0), (.int .i64 0), (.int .i64 0)]) 24 rfl Tryd.underlying59 info62 rfl (by decide) (by omega) u3 x3_1 (⟨x4_1, x5_1, wrap64 (x5_1 + 1)⟩ : S62) [.int .i64 x4_1, .int .i64 x5_1, .int .i64 (wrap64 (x5_1 + 1))] (fun _ => True) (fun _ => False) rfl rfl ?aP (fun _ hk => hk.elim) ?aF ?aO ?aB ?aS ?aL ?_; (case aP => exact k62_mkM _ _ _ (⟨x4_1, x5_1, wrap64 (x5_1 + 1)⟩ : S62)); (case aB => exact (by repeat (first | (with_reducible first | exact HB.out | apply below_alloc | apply pw_below_drewN | apply below_drew1) | exact HB.out))); (case aF => exact (fun _ _ => trivial)); (case aO => exact (by (with_reducible repeat (first | apply Kd.R_alloc | apply Kd.R_drewN | apply Kd.R_drew)); exact HO_3.out)); (case aS => exact (below_size (by repeat (first | (with_reducible first | exact HB.out | apply below_alloc | apply pw_below_drewN | apply below_drew1) | exact HB.out)))); (case aL => have := LMc20.out; omega); intro v277 w21 ho hb hg hat; rw [← Ny276.out] at ho; have n0_ := Aside0.mk (hb); have n1_ := Aside0.mk (ho); clear HB; clear HO_3; have HB := n0_; have HO278 := n1_; clear n0_ n1_; clear ho hb hg hat))
           go_roundg kj2
           case measure => have := HK1.out; have := HJ2.out; omega
           case rel => exact ⟨(y276), (wrap64 (x5_1 + 1)), (wrap64 ((wrap64 ((wrap64 (x5_1 + 1)) - 1)) + 1)), (by first | rfl | (simp; done) | (simp [*]; done)), (by first | rfl | (simp; done) | (simp [*]; done)), H', ⟨by have := HK1.out; have := HJ2.out; omega⟩, ⟨by (with_reducible repeat (first | apply Kd.R_alloc | apply Kd.R_drewN | apply Kd.R_drew)); exact HO278.out⟩, ⟨by repeat (first | (with_reducible first | exact HB.out | apply below_alloc | apply pw_below_drewN | apply below_drew1) | exact HB.out)⟩⟩
          ·rw [if_neg c20] at H
           exact absurd H (by simp)
        ·rw [if_neg c8] at H
         exact absurd H (by simp)
       ·rw [if_neg c7] at H
        exact absurd H (by simp)
   ·rw [if_neg c2] at H
    have c2b0 : decide (x5_1 < (l0.length : Int)) = false := decide_eq_false c2
    clear c2
    by_cases c22 : x3_1.length < 5864062014805
    ·rw [if_pos c22] at H
     have LMc22 := Aside0.mk c22
     clear c22
     obtain ⟨y260, hy260⟩ : ∃ y_ : List (S62), y_ = (x3_1 ++ [(⟨x4_1, (l0.length : Int), (l0.length : Int)⟩ : S62)]) := ⟨_, rfl⟩
     replace H : (some y260) = some r := by first | (rw [hy260]; with_reducible exact H) | (have H2_ := (Option.bind_some _ _).symm.trans H; rw [hy260]; with_reducible exact H2_) | (have H2_ := (Option.bind_some _ _).symm.trans H; with_reducible exact H2_) | with_reducible exact H | (rw [hy260]; exact H) | exact H
     have Ny260 := Aside0.mk hy260
     clear hy260
     obtain rfl := Option.some.inj H
     go_wp2_with (first | ((with_reducible refine gate_builtin (b := .append) (xs := #[.tmp 57, .tmp 64]) rfl ?_); (try (refine gate_guard (by rfl) ?_; dsimp only)); at_builtin; refine Kd.R_append k62 (w0 := w) w.heap.size rfl (.tmp 57) (.tmp 64) 59 62 (.agg #[(.int .i64 0), (.int .i64 0), (.int .i64 0)]) 24 rfl Tryd.underlying59 info62 rfl (by decide) (by omega) u3 x3_1 (⟨x4_1, (l0.length : Int), (l0.length : Int)⟩ : S62) [.int .i64 x4_1, .int .i64 (l0.length : Int), .int .i64 (l0.length : Int)] (fun _ => True) (fun _ => False) rfl rfl ?aP (fun _ hk => hk.elim) ?aF ?aO ?aB ?aS ?aL ?_; (case aP => exact k62_mkM _ _ _ (⟨x4_1, (l0.length : Int), (l0.length : Int)⟩ : S62)); (case aB => exact (by repeat (first | (with_reducible first | exact HB.out | apply below_alloc | apply pw_below_drewN | apply below_drew1) | exact HB.out))); (case aF => exact (fun _ _ => trivial)); (case aO => exact (by (with_reducible repeat (first | apply Kd.R_alloc | apply Kd.R_drewN | apply Kd.R_drew)); exact HO_3.out)); (case aS => exact (below_size (by repeat (first | (with_reducible first | exact HB.out | apply below_alloc | apply pw_below_drewN | apply below_drew1) | exact HB.out)))); (case aL => have := LMc22.out; omega); intro v261 w23 ho hb hg hat; rw [← Ny260.out] at ho; have n0_ := Aside0.mk (hb); have n1_ := Aside0.mk (ho); clear HB; clear HO_3; have HB := n0_; have HO262 := n1_; clear n0_ n1_; clear ho hb hg hat))
     go_ret
     exact ⟨_, by first | rfl | (simp [errW_none, errW_some] <;> rfl) | (simp [*, errW_none, errW_some] <;> rfl), by (with_reducible repeat (first | apply Kd.R_alloc | apply Kd.R_drewN | apply Kd.R_drew)); exact HO262.out, by repeat (first | (with_reducible first | exact HB.out | apply below_alloc | apply pw_below_drewN | apply below_drew1) | exact HB.out)⟩
    ·rw [if_neg c22] at H
     exact absurd H (by simp)

end Go.Proofs.YtijbkiajhicooabDoor.PW

namespace Go.Proofs.YtijbkiajhicooabDoor.PW
open Go.RowKit Go.Proofs.YtijbkiajhicooabDoorW.PrintWords Go.Proofs.YtijbkiajhicooabDoorW.PrintLast Go.Proofs.YtijbkiajhicooabDoorW.PrintMore
attribute [local go_sem] max2_int min2_int max_two min_two max_three min_three max_four min_four   -- for this text's walks alone
set_option linter.unusedVariables false
set_option linter.unusedSimpArgs false

def galleyref07_Last.f (a0_0 : Int) (a0_1 : Int) (a0_2 : Int) : Option (Int) := if (wrap64 (a0_2 - a0_1)) = 2 then (some (wrap64 (a0_1 + 1))) else (some a0_1)
set_option maxHeartbeats 8000000 in
set_option maxRecDepth 100000 in
theorem galleyref07_Last.calls (a0_0 : Int) (a0_1 : Int) (a0_2 : Int) (r : Int) (w : World) (h : galleyref07_Last.f a0_0 a0_1 a0_2 = some r) :
  Calls Tryd.prog 28 #[.agg #[.int .i64 a0_0, .int .i64 a0_1, .int .i64 a0_2]] w fun e w' => e = .returned (.int .i64 r) ∧ Below w.heap.size w w' := by
 have hu62 := Tryd.underlying62
 have HB := Aside0.mk (Below.refl w.heap.size w)
 have H : (if (wrap64 (a0_2 - a0_1)) = 2 then (some (wrap64 (a0_1 + 1))) else (some a0_1)) = some r := h
 clear h
 by_cases c2 : (wrap64 (a0_2 - a0_1)) = 2
 ·rw [if_pos c2] at H
  have c2b0 : ((wrap64 (a0_2 - a0_1)) == 2) = true := beq_iff_eq.mpr c2
  have c2b1 : ((wrap64 (a0_2 - a0_1)) != 2) = false := bne_eq_false_iff_eq.mpr c2
  clear c2
  obtain rfl := Option.some.inj H
  go_enter Tryd.func28, Tryd.ntmps28
  go_wp2_with (first | ((with_reducible refine gate_dst (N := 1) rfl ?_); refine box_event ?hg (N := 1) ?hd (cs := #[.int .i64 a0_0, .int .i64 a0_1, .int .i64 a0_2]) (t := 62) ?hr ?_; (case hd => rfl); (case hg => rfl); (case hr => first | (go_simp; done) | (go_simp; rfl)); intro gb279 hg w3 hbox hb; have n0_ := Aside0.mk (below_step (by repeat (first | (with_reducible first | exact HB.out | apply below_alloc | apply pw_below_drewN | apply below_drew1) | exact HB.out)) hb); have n1_ := Aside0.mk (hbox); have n2_ := Aside0.mk ((by rw [hg]; exact (below_size (by repeat (first | (with_reducible first | exact HB.out | apply below_alloc | apply pw_below_drewN | apply below_drew1) | exact HB.out))) : w.heap.size ≤ gb279)); have n3_ := Aside0.mk ((by rw [hg]; exact (below_size (by repeat (first | (with_reducible first | exact HB.out | apply below_alloc | apply pw_below_drewN | apply below_drew1) | exact HB.out))) : w.heap.size ≤ gb279)); clear HB; have HB := n0_; have BK279 := n1_; have GW279 := n2_; have GE279 := n3_; clear n0_ n1_ n2_ n3_; clear hb hbox hg; have hcz4_0 : w3.cell? ⟨gb279, 0, none⟩ = some (.int .i64 a0_0) := (blk_cell BK279.out 0).trans rfl; have hcz4_1 : w3.cell? ⟨gb279, 1, none⟩ = some (.int .i64 a0_1) := (blk_cell BK279.out 1).trans rfl; have hcz4_2 : w3.cell? ⟨gb279, 2, none⟩ = some (.int .i64 a0_2) := (blk_cell BK279.out 2).trans rfl; have hfz4_0 := blk_frozen BK279.out 0; have hfz4_1 := blk_frozen BK279.out 1; have hfz4_2 := blk_frozen BK279.out 2))
  go_ret
  exact ⟨by first | rfl | (simp [errW_none, errW_some] <;> rfl) | (simp [*, errW_none, errW_some] <;> rfl), by repeat (first | (with_reducible first | exact HB.out | apply below_alloc | apply pw_below_drewN | apply below_drew1 | refine below_set ?_ GE279.out) | exact HB.out)⟩
 ·rw [if_neg c2] at H
  have c2b0 : ((wrap64 (a0_2 - a0_1)) == 2) = false := beq_eq_false_iff_ne.mpr c2
  have c2b1 : ((wrap64 (a0_2 - a0_1)) != 2) = true := bne_iff_ne.mpr c2
  obtain rfl := Option.some.inj H
  go_enter Tryd.func28, Tryd.ntmps28
  go_wp2_with (first | ((with_reducible refine gate_dst (N := 1) rfl ?_); refine box_event ?hg (N := 1) ?hd (cs := #[.int .i64 a0_0, .int .i64 a0_1, .int .i64 a0_2]) (t := 62) ?hr ?_; (case hd => rfl); (case hg => rfl); (case hr => first | (go_simp; done) | (go_simp; rfl)); intro gb279 hg w5 hbox hb; have n0_ := Aside0.mk (below_step (by repeat (first | (with_reducible first | exact HB.out | apply below_alloc | apply pw_below_drewN | apply below_drew1) | exact HB.out)) hb); have n1_ := Aside0.mk (hbox); have n2_ := Aside0.mk ((by rw [hg]; exact (below_size (by repeat (first | (with_reducible first | exact HB.out | apply below_alloc | apply pw_below_drewN | apply below_drew1) | exact HB.out))) : w.heap.size ≤ gb279)); have n3_ := Aside0.mk ((by rw [hg]; exact (below_size (by repeat (first | (with_reducible first | exact HB.out | apply below_alloc | apply pw_below_drewN | apply below_drew1) | exact HB.out))) : w.heap.size ≤ gb279)); clear HB; have HB := n0_; have BK279 := n1_; have GW279 := n2_; have GE279 := n3_; clear n0_ n1_ n2_ n3_; clear hb hbox hg; have hcz6_0 : w5.cell? ⟨gb279, 0, none⟩ = some (.int .i64 a0_0) := (blk_cell BK279.out 0).trans rfl; have hcz6_1 : w5.cell? ⟨gb279, 1, none⟩ = some (.int .i64 a0_1) := (blk_cell BK279.out 1).trans rfl; have hcz6_2 : w5.cell? ⟨gb279, 2, none⟩ = some (.int .i64 a0_2) := (blk_cell BK279.out 2).trans rfl; have hfz6_0 := blk_frozen BK279.out 0; have hfz6_1 := blk_frozen BK279.out 1; have hfz6_2 := blk_frozen BK279.out 2))
  go_ret
  exact ⟨by first | rfl | (simp [errW_none, errW_some] <;> rfl) | (simp [*, errW_none, errW_some] <;> rfl), by repeat (first | (with_reducible first | exact HB.out | apply below_alloc | apply pw_below_drewN | apply below_drew1 | refine below_set ?_ GE279.out) | exact HB.out)⟩

end Go.Proofs.YtijbkiajhicooabDoor.PW

namespace Go.Proofs.YtijbkiajhicooabDoor.PW
open Go.RowKit Go.Proofs.YtijbkiajhicooabDoorW.PrintWords Go.Proofs.YtijbkiajhicooabDoorW.PrintLast Go.Proofs.YtijbkiajhicooabDoorW.PrintMore
attribute [local go_sem] max2_int min2_int max_two min_two max_three min_three max_four min_four   -- for this text's walks alone
set_option linter.unusedVariables false
set_option linter.unusedSimpArgs false

mutual
def galleylaw22_WordsTabs.j0 : Nat → List Int → Int → Bool → Option (Bool)
 | 0, _, _, _ => none
 | k + 1, x0, x1, x27 => if x27 = true then ((galleylaw22_own.f x0).bind fun t281 => ((words_Column.f t281 0 x1).bind fun bt284 => (if bt284.1 = 0 then (some (bt284.2 == 2)) else (some false)))) else ((galleyref07_Rows.f k x0).bind fun t286 => (galleylaw22_WordsTabs.l0 k x0 x1 t286 0))
def galleylaw22_WordsTabs.l0 : Nat → List Int → Int → List (S62) → Int → Option (Bool)
 | 0, _, _, _, _ => none
 | k + 1, x0, x1, x7, x8 => if x8 < (x7.length : Int) then (if 0 ≤ x8 then (galleylaw22_WordsTabs.l1 k x0 x1 x7 x8 0 ((rd_T62 x7 x8).f0)) else (none)) else (some true)
def galleylaw22_WordsTabs.l1 : Nat → List Int → Int → List (S62) → Int → Int → Int → Option (Bool)
 | 0, _, _, _, _, _, _ => none
 | k + 1, x0, x1, x7, x8, x9, x10 => if 0 ≤ x8 then (if x8 < (x7.length : Int) then (if x10 < ((rd_T62 x7 x8).f1) then ((galleylaw22_own.f x0).bind fun t291 => ((step_At.f k t291 x10).bind fun bt294 => (if bt294.2.2.2 = 0 then (galleylaw22_WordsTabs.j3 k x0 x1 x7 x8 x9 x10 (decide (bt294.2.1 < 1)) bt294.1 bt294.2.1 bt294.2.2.1) else (galleylaw22_WordsTabs.j3 k x0 x1 x7 x8 x9 x10 true bt294.1 bt294.2.1 bt294.2.2.1)))) else (galleylaw22_WordsTabs.l4 k x0 x1 x7 x8 x9 ((rd_T62 x7 x8).f1))) else (none)) else (none)
def galleylaw22_WordsTabs.j3 : Nat → List Int → Int → List (S62) → Int → Int → Int → Bool → Int → Int → Bool → Option (Bool)
 | 0, _, _, _, _, _, _, _, _, _, _ => none
 | k + 1, x0, x1, x7, x8, x9, x10, x74, x299000, x299001, x299002 => if x74 = true then (some false) else (galleylaw22_WordsTabs.l2 k x0 x1 x7 x8 x9 x10 x10 x299000 x299001 x299002)
def galleylaw22_WordsTabs.l2 : Nat → List Int → Int → List (S62) → Int → Int → Int → Int → Int → Int → Bool → Option (Bool)
 | 0, _, _, _, _, _, _, _, _, _, _ => none
 | k + 1, x0, x1, x7, x8, x9, x10, x13, x299000, x299001, x299002 => if x13 < (wrap64 (x10 + x299001)) then ((galleylaw22_own.f x0).bind fun t299 => ((words_Column.f t299 x13 x1).bind fun bt302 => (if bt302.2 = 0 then (if bt302.1 = x9 then (galleylaw22_WordsTabs.l2 k x0 x1 x7 x8 x9 x10 (wrap64 (x13 + 1)) x299000 x299001 x299002) else (some false)) else (some false)))) else (if x299000 = 9 then (galleylaw22_WordsTabs.l3 k x0 x1 x7 x8 (wrap64 (x9 + 1)) x10 x9 x299000 x299001 x299002) else (if (wrap64 (x9 + 1)) ≤ x9 then (some false) else (galleylaw22_WordsTabs.l1 k x0 x1 x7 x8 (wrap64 (x9 + 1)) (wrap64 (x10 + x299001)))))
def galleylaw22_WordsTabs.l3 : Nat → List Int → Int → List (S62) → Int → Int → Int → Int → Int → Int → Bool → Option (Bool)
 | 0, _, _, _, _, _, _, _, _, _, _ => none
 | k + 1, x0, x1, x7, x8, x9, x10, x16, x299000, x299001, x299002 => if x1 = 0 then (none) else (if (Int.tmod x9 x1) = 0 then (if x9 ≤ x16 then (some false) else (galleylaw22_WordsTabs.l1 k x0 x1 x7 x8 x9 (wrap64 (x10 + x299001)))) else (galleylaw22_WordsTabs.l3 k x0 x1 x7 x8 (wrap64 (x9 + 1)) x10 x16 x299000 x299001 x299002))
def galleylaw22_WordsTabs.l4 : Nat → List Int → Int → List (S62) → Int → Int → Int → Option (Bool)
 | 0, _, _, _, _, _, _ => none
 | k + 1, x0, x1, x7, x8, x9, x17 => if 0 ≤ x8 then (if x8 < (x7.length : Int) then ((galleyref07_Last.f ((rd_T62 x7 x8).f0) ((rd_T62 x7 x8).f1) ((rd_T62 x7 x8).f2)).bind fun t306 => (if x17 ≤ t306 then ((galleylaw22_own.f x0).bind fun t307 => ((words_Column.f t307 x17 x1).bind fun bt310 => (if bt310.2 = 0 then (if bt310.1 = x9 then (galleylaw22_WordsTabs.l4 k x0 x1 x7 x8 x9 (wrap64 (x17 + 1))) else (some false)) else (some false)))) else (galleylaw22_WordsTabs.l0 k x0 x1 x7 (wrap64 (x8 + 1))))) else (none)) else (none)
end
def galleylaw22_WordsTabs.f (k : Nat) (l0 : List Int) (a1 : Int) : Option (Bool) := (galleylaw22_wakes.f).bind fun t280 => (if t280 = true then (if a1 < 1 then (galleylaw22_WordsTabs.j0 k l0 a1 true) else (galleylaw22_WordsTabs.j0 k l0 a1 (decide (a1 > 65536)))) else (some false))
set_option maxHeartbeats 8000000 in
set_option maxRecDepth 100000 in
theorem galleylaw22_WordsTabs.calls (k : Nat) (A0 : Option Addr) (c0 : Nat) (l0 : List Int) (a1 : Int) (r : Bool) (w : World) (hr0 : Kd.C (Kd.int .u8) w A0 l0.length l0) (hc0 : l0.length ≤ c0) (hL : LaidBad w) (h : galleylaw22_WordsTabs.f k l0 a1 = some r) :
  Calls Tryd.prog 6 #[.slice A0 l0.length c0, .int .i64 a1] w fun e w' => e = .returned (.bool r) ∧ Below w.heap.size w w' := by
 have hu50 := Tryd.underlying50
 have hu62 := Tryd.underlying62
 have HR0 := Aside0.mk hr0
 have HC0 := Aside0.mk hc0
 clear hr0 hc0
 have HB := Aside0.mk (Below.refl w.heap.size w)
 have HLB := Aside0.mk hL
 clear hL
 have H : ((galleylaw22_wakes.f).bind fun t280 => (if t280 = true then (if a1 < 1 then (galleylaw22_WordsTabs.j0 k l0 a1 true) else (galleylaw22_WordsTabs.j0 k l0 a1 (decide (a1 > 65536)))) else (some false))) = some r := h
 clear h
 replace H := Option.bind_eq_some_iff.mp H
 obtain ⟨t280, A30, H⟩ := H
 replace H : (if t280 = true then (if a1 < 1 then (galleylaw22_WordsTabs.j0 k l0 a1 true) else (galleylaw22_WordsTabs.j0 k l0 a1 (decide (a1 > 65536)))) else (some false)) = some r := H
 have A3 := Aside0.mk A30
 clear A30
 by_cases c4 : t280 = true
 ·subst c4
  have H1 : (if a1 < 1 then (galleylaw22_WordsTabs.j0 k l0 a1 true) else (galleylaw22_WordsTabs.j0 k l0 a1 (decide (a1 > 65536)))) = some r := by rw [if_pos rfl] at H; exact H
  clear H
  have H := H1
  clear H1
  have HC5 := Aside0.mk H
  clear H
  go_enter Tryd.func6, Tryd.ntmps6
  go_upto_region 3 with (first | ((with_reducible refine gate_callee (f := 19) rfl ?_); refine goesL_ (some 20) rfl rfl Tryd.func19 (by kernel_rfl) rfl #[] rfl (by (try simp only [List.map_toArray, List.map_cons, List.map_nil]); first | done | rfl | (simp only [List.length_drop, List.length_take]; rfl)) ?_; (with_reducible refine (galleylaw22_wakes.calls  true _ ?side1 A3.out).mono ?_); (case side1 => exact laid_below HLB.out (by repeat (first | (with_reducible first | exact HB.out | apply below_alloc | apply pw_below_drewN | apply below_drew1) | exact HB.out))); rintro e w6 ⟨rfl, hb⟩; refine ⟨_, rfl, ?_⟩; have n0_ := Aside0.mk (below_step (by repeat (first | (with_reducible first | exact HB.out | apply below_alloc | apply pw_below_drewN | apply below_drew1) | exact HB.out)) hb); clear HB; have HB := n0_; clear n0_; (try clear hb); (try clear hb2); (try clear hk); (try clear hi)))
  (try simp only [Act.put, List.setIfInBounds_toArray, List.set_cons_zero, List.set_cons_succ])
  go_cut [27] (fun v27 wc => ∃ (kq : Nat) (x27_4 : Bool), v27 = .bool x27_4 ∧ Aside0 (galleylaw22_WordsTabs.j0 kq l0 a1 x27_4 = some r) ∧ Aside0 (kq ≤ k) ∧ Aside0 (Below w.heap.size w wc))
  case first =>
   have H := HC5.out
   clear HC5
   by_cases c7 : a1 < 1
   ·rw [if_pos c7] at H
    have c7b0 : decide (a1 < 1) = true := decide_eq_true c7
    clear c7
    (first | rw [c7b0] | (simp only [i64_w, i32_w]; rw [c7b0]) | skip)
    have H' := Aside0.mk H
    clear H
    go_wp2
    go_meet
    case rel => exact ⟨_, (true), (by first | rfl | (simp; done) | (simp [*]; done)), H', ⟨by first | omega | exact Nat.le_refl _⟩, ⟨by repeat (first | (with_reducible first | exact HB.out | apply below_alloc | apply pw_below_drewN | apply below_drew1) | exact HB.out)⟩⟩
   ·rw [if_neg c7] at H
    have c7b0 : decide (a1 < 1) = false := decide_eq_false c7
    clear c7
    (first | rw [c7b0] | (simp only [i64_w, i32_w]; rw [c7b0]) | skip)
    have H' := Aside0.mk H
    clear H
    go_wp2
    go_meet
    case rel => exact ⟨_, (decide (a1 > 65536)), (by first | rfl | (simp; done) | (simp [*]; done)), H', ⟨by first | omega | exact Nat.le_refl _⟩, ⟨by repeat (first | (with_reducible first | exact HB.out | apply below_alloc | apply pw_below_drewN | apply below_drew1) | exact HB.out)⟩⟩
  case rest =>
   clear HC5
   try clear c1
   try clear p2
   try clear c4
   try clear c6
   try clear c7
   try clear c7b0
   obtain ⟨kq, x27_4, rfl, HA, HJ4, HB⟩ := hcut
   cases kq with
   | zero => exact absurd HA.out (by simp [galleylaw22_WordsTabs.j0])
   | succ kj4 =>
    have H := HA.out
    clear HA
    simp only [galleylaw22_WordsTabs.j0] at H
    by_cases c8 : x27_4 = true
    ·subst c8
     have H1 : ((galleylaw22_own.f l0).bind fun t281 => ((words_Column.f t281 0 a1).bind fun bt284 => (if bt284.1 = 0 then (some (bt284.2 == 2)) else (some false)))) = some r := by rw [if_pos rfl] at H; exact H
     clear H
     have H := H1
     clear H1
     replace H := Option.bind_eq_some_iff.mp H
     obtain ⟨t281, A90, H⟩ := H
     replace H : ((words_Column.f t281 0 a1).bind fun bt284 => (if bt284.1 = 0 then (some (bt284.2 == 2)) else (some false))) = some r := H
     have A9 := Aside0.mk A90
     clear A90
     replace H := Option.bind_eq_some_iff.mp H
     obtain ⟨⟨t284, t285⟩, A100, H⟩ := H
     replace H : (if t284 = 0 then (some (t285 == 2)) else (some false)) = some r := H
     have A10 := Aside0.mk A100
     clear A100
     by_cases c11 : t284 = 0
     ·rw [if_pos c11] at H
      have c11b0 : (t284 == 0) = true := beq_iff_eq.mpr c11
      have c11b1 : (t284 != 0) = false := bne_eq_false_iff_eq.mpr c11
      clear c11
      obtain rfl := Option.some.inj H
      go_wp2_with (first | ((with_reducible refine gate_callee (f := 21) rfl ?_); refine goesL_ (some 30) rfl rfl Tryd.func21 (by kernel_rfl) rfl #[.slice A0 l0.length c0] rfl (by (try simp only [List.map_toArray, List.map_cons, List.map_nil]); first | done | rfl | (simp only [List.length_drop, List.length_take]; rfl)) ?_; (with_reducible refine (galleylaw22_own.calls _ _ l0 t281 _ ?side1 ?side2 A9.out).mono ?_); (case side1 => repeat (first | exact (Kd.C_below HR0.out HB.out) | (with_reducible refine Kd.C_alloc ?_ _) | (with_reducible refine Kd.C_drewN ?_ _) | (with_reducible refine Kd.C_drew ?_))); (case side2 => exact HC0.out); rintro e w12 ⟨v282, rfl, ho0, hb⟩; refine ⟨_, rfl, ?_⟩; have n0_ := Aside0.mk (Kd.R_lower ho0 (below_size (by repeat (first | (with_reducible first | exact HB.out | apply below_alloc | apply pw_below_drewN | apply below_drew1) | exact HB.out)))); have n1_ := Aside0.mk (below_step (by repeat (first | (with_reducible first | exact HB.out | apply below_alloc | apply pw_below_drewN | apply below_drew1) | exact HB.out)) hb); clear HB; have HO283 := n0_; have HB := n1_; clear n0_ n1_; (try clear hb); (try clear hb2); (try clear hk); (try clear hi); (try clear ho0); obtain ⟨Ao13, co13, eo13⟩ := Kd.R_slice HO283.out; subst eo13) | ((with_reducible refine gate_callee (f := 26) rfl ?_); refine goesL_ (some 32) rfl rfl Tryd.func26 (by kernel_rfl) rfl #[.slice Ao13 t281.length co13, .int .i64 0, .int .i64 a1] rfl (by (try simp only [List.map_toArray, List.map_cons, List.map_nil]); first | done | rfl | (simp only [List.length_drop, List.length_take]; rfl)) ?_; (with_reducible refine (words_Column.calls _ _ t281 0 a1 t284 t285 _ ?side1 ?side2 ?side3 A10.out).mono ?_); (case side1 => repeat (first | exact (Kd.R_reads' HO283.out).2.2 | (with_reducible refine Kd.C_alloc ?_ _) | (with_reducible refine Kd.C_drewN ?_ _) | (with_reducible refine Kd.C_drew ?_))); (case side2 => exact (Kd.R_reads' HO283.out).2.1); (case side3 => exact laid_below HLB.out (by repeat (first | (with_reducible first | exact HB.out | apply below_alloc | apply pw_below_drewN | apply below_drew1) | exact HB.out))); rintro e w14 ⟨rfl, hb⟩; refine ⟨_, rfl, ?_⟩; have n0_ := Aside0.mk (Kd.R_below (by (with_reducible repeat (first | apply Kd.R_alloc | apply Kd.R_drewN | apply Kd.R_drew)); exact HO283.out) hb); have n1_ := Aside0.mk (below_step (by repeat (first | (with_reducible first | exact HB.out | apply below_alloc | apply pw_below_drewN | apply below_drew1) | exact HB.out)) hb); clear HO283; clear HB; have HO283 := n0_; have HB := n1_; clear n0_ n1_; (try clear hb); (try clear hb2); (try clear hk); (try clear hi)))
      go_ret
      exact ⟨by first | rfl | (simp [errW_none, errW_some] <;> rfl) | (simp [*, errW_none, errW_some] <;> rfl), by repeat (first | (with_reducible first | exact HB.out | apply below_alloc | apply pw_below_drewN | apply below_drew1) | exact HB.out)⟩
     ·rw [if_neg c11] at H
      have c11b0 : (t284 == 0) = false := beq_eq_false_iff_ne.mpr c11
      have c11b1 : (t284 != 0) = true := bne_iff_ne.mpr c11
      obtain rfl := Option.some.inj H
      go_wp2_with (first | ((with_reducible refine gate_callee (f := 21) rfl ?_); refine goesL_ (some 30) rfl rfl Tryd.func21 (by kernel_rfl) rfl #[.slice A0 l0.length c0] rfl (by (try simp only [List.map_toArray, List.map_cons, List.map_nil]); first | done | rfl | (simp only [List.length_drop, List.length_take]; rfl)) ?_; (with_reducible refine (galleylaw22_own.calls _ _ l0 t281 _ ?side1 ?side2 A9.out).mono ?_); (case side1 => repeat (first | exact (Kd.C_below HR0.out HB.out) | (with_reducible refine Kd.C_alloc ?_ _) | (with_reducible refine Kd.C_drewN ?_ _) | (with_reducible refine Kd.C_drew ?_))); (case side2 => exact HC0.out); rintro e w15 ⟨v282, rfl, ho0, hb⟩; refine ⟨_, rfl, ?_⟩; have n0_ := Aside0.mk (Kd.R_lower ho0 (below_size (by repeat (first | (with_reducible first | exact HB.out | apply below_alloc | apply pw_below_drewN | apply below_drew1) | exact HB.out)))); have n1_ := Aside0.mk (below_step (by repeat (first | (with_reducible first | exact HB.out | apply below_alloc | apply pw_below_drewN | apply below_drew1) | exact HB.out)) hb); clear HB; have HO283 := n0_; have HB := n1_; clear n0_ n1_; (try clear hb); (try clear hb2); (try clear hk); (try clear hi); (try clear ho0); obtain ⟨Ao16, co16, eo16⟩ := Kd.R_slice HO283.out; subst eo16) | ((with_reducible refine gate_callee (f := 26) rfl ?_); refine goesL_ (some 32) rfl rfl Tryd.func26 (by kernel_rfl) rfl #[.slice Ao16 t281.length co16, .int .i64 0, .int .i64 a1] rfl (by (try simp only [List.map_toArray, List.map_cons, List.map_nil]); first | done | rfl | (simp only [List.length_drop, List.length_take]; rfl)) ?_; (with_reducible refine (words_Column.calls _ _ t281 0 a1 t284 t285 _ ?side1 ?side2 ?side3 A10.out).mono ?_); (case side1 => repeat (first | exact (Kd.R_reads' HO283.out).2.2 | (with_reducible refine Kd.C_alloc ?_ _) | (with_reducible refine Kd.C_drewN ?_ _) | (with_reducible refine Kd.C_drew ?_))); (case side2 => exact (Kd.R_reads' HO283.out).2.1); (case side3 => exact laid_below HLB.out (by repeat (first | (with_reducible first | exact HB.out | apply below_alloc | apply pw_below_drewN | apply below_drew1) | exact HB.out))); rintro e w17 ⟨rfl, hb⟩; refine ⟨_, rfl, ?_⟩; have n0_ := Aside0.mk (Kd.R_below (by (with_reducible repeat (first | apply Kd.R_alloc | apply Kd.R_drewN | apply Kd.R_drew)); exact HO283.out) hb); have n1_ := Aside0.mk (below_step (by repeat (first | (with_reducible first | exact HB.out | apply below_alloc | apply pw_below_drewN | apply below_drew1) | exact HB.out)) hb); clear HO283; clear HB; have HO283 := n0_; have HB := n1_; clear n0_ n1_; (try clear hb); (try clear hb2); (try clear hk); (try clear hi)))
      go_ret
      exact ⟨by first | rfl | (simp [errW_none, errW_some] <;> rfl) | (simp [*, errW_none, errW_some] <;> rfl), by repeat (first | (with_reducible first | exact HB.out | apply below_alloc | apply pw_below_drewN | apply below_drew1) | exact HB.out)⟩
    ·replace c8 := Bool.eq_false_iff.mpr c8
     subst c8
     have H1 : ((galleyref07_Rows.f kj4 l0).bind fun t286 => (galleylaw22_WordsTabs.l0 kj4 l0 a1 t286 0)) = some r := by rw [if_neg (show ¬ (false = true) by decide)] at H; exact H
     clear H
     have H := H1
     clear H1
     replace H := Option.bind_eq_some_iff.mp H
     obtain ⟨t286, A180, H⟩ := H
     replace H : (galleylaw22_WordsTabs.l0 kj4 l0 a1 t286 0) = some r := H
     have A18 := Aside0.mk A180
     clear A180
     have H' := Aside0.mk H
     clear H
     go_wp2_with (first | ((with_reducible refine gate_callee (f := 27) rfl ?_); refine goesL_ (some 42) rfl rfl Tryd.func27 (by kernel_rfl) rfl #[.slice A0 l0.length c0] rfl (by (try simp only [List.map_toArray, List.map_cons, List.map_nil]); first | done | rfl | (simp only [List.length_drop, List.length_take]; rfl)) ?_; (with_reducible refine (galleyref07_Rows.calls kj4 _ _ l0 t286 _ ?side1 ?side2 A18.out).mono ?_); (case side1 => repeat (first | exact (Kd.C_below HR0.out HB.out) | (with_reducible refine Kd.C_alloc ?_ _) | (with_reducible refine Kd.C_drewN ?_ _) | (with_reducible refine Kd.C_drew ?_))); (case side2 => exact HC0.out); rintro e w19 ⟨v287, rfl, ho0, hb⟩; refine ⟨_, rfl, ?_⟩; have n0_ := Aside0.mk (Kd.R_lower ho0 (below_size (by repeat (first | (with_reducible first | exact HB.out | apply below_alloc | apply pw_below_drewN | apply below_drew1) | exact HB.out)))); have n1_ := Aside0.mk (below_step (by repeat (first | (with_reducible first | exact HB.out | apply below_alloc | apply pw_below_drewN | apply below_drew1) | exact HB.out)) hb); clear HB; have HO288 := n0_; have HB := n1_; clear n0_ n1_; (try clear hb); (try clear hb2); (try clear hk); (try clear hi); (try clear ho0)))
     go_loopg [8] kj4 (fun kq v8 w' => ∃ (x8_2 : Int), v8 = .int .i64 x8_2 ∧ Aside0 (galleylaw22_WordsTabs.l0 kq l0 a1 t286 x8_2 = some r) ∧ Aside0 (kq ≤ kj4) ∧ Aside0 (Kd.R k62 62 w' w.heap.size (fun _ => True) v287 t286) ∧ Aside0 (Below w.heap.size w w'))
     case atStart => exact ⟨(0), (by first | rfl | (simp; done) | (simp [*]; done)), H', ⟨Nat.le_refl _⟩, ⟨by (with_reducible repeat (first | apply Kd.R_alloc | apply Kd.R_drewN | apply Kd.R_drew)); exact HO288.out⟩, ⟨by repeat (first | (with_reducible first | exact HB.out | apply below_alloc | apply pw_below_drewN | apply below_drew1) | exact HB.out)⟩⟩
     case round =>
      clear H'
      try clear c1
      try clear c2
      try clear p2
      try clear c4
      try clear c6
      try clear c7
      try clear c7b0
      try clear c8
      try clear c11
      try clear c11b0
      try clear c11b1
      try clear c19
      try clear p2
      obtain ⟨x8_2, rfl, HA, HK2, HO_7, HB⟩ := hrel
      cases gk with
      | zero => exact absurd HA.out (by simp [galleylaw22_WordsTabs.l0])
      | succ k2 =>
       have H := HA.out
       clear HA
       simp only [galleylaw22_WordsTabs.l0] at H
       by_cases c20 : x8_2 < (t286.length : Int)
       ·rw [if_pos c20] at H
        have c20b0 : decide (x8_2 < (t286.length : Int)) = true := decide_eq_true c20
        clear c20
        by_cases c21 : 0 ≤ x8_2
        ·rw [if_pos c21] at H
         have c21b0 : decide (0 ≤ x8_2) = true := decide_eq_true c21
         clear c21
         have H' := Aside0.mk H
         clear H
         obtain ⟨Ao22, co22, eo22⟩ := Kd.R_slice HO_7.out
         subst eo22
         have p289 : 0 ≤ (x8_2 : Int) := of_decide_eq_true (by first | (with_reducible assumption) | assumption)
         have q289 : x8_2 < (t286.length : Int) := of_decide_eq_true (by first | (with_reducible assumption) | assumption)
         obtain ⟨ad289, e289, hx289_0, hx289_1, hx289_2⟩ := at_T62 (Kd.R_reads' HO_7.out).2.2 x8_2 p289 q289
         cases e289
         replace p289 := eq_true p289
         replace q289 := eq_true q289
         go_wp2
         go_loopg [9, 10] k2 (fun kq v9 v10 w' => ∃ (x9_3 : Int) (x10_3 : Int), v9 = .int .i64 x9_3 ∧ v10 = .int .i64 x10_3 ∧ Aside0 (galleylaw22_WordsTabs.l1 kq l0 a1 t286 x8_2 x9_3 x10_3 = some r) ∧ Aside0 (kq ≤ k2) ∧ Aside0 (Kd.R k62 62 w' w.heap.size (fun _ => True) (.slice (some ad289) t286.length co22) t286) ∧ Aside0 (Below w.heap.size w w'))
         case atStart => exact ⟨(0), ((rd_T62 t286 x8_2).f0), (by first | rfl | (simp; done) | (simp [*]; done)), (by first | rfl | (simp; done) | (simp [*]; done)), H', ⟨Nat.le_refl _⟩, ⟨by (with_reducible repeat (first | apply Kd.R_alloc | apply Kd.R_drewN | apply Kd.R_drew)); exact HO_7.out⟩, ⟨by repeat (first | (with_reducible first | exact HB.out | apply below_alloc | apply pw_below_drewN | apply below_drew1) | exact HB.out)⟩⟩
         case round =>
          clear H'
          try clear c1
          try clear c2
          try clear p2
          try clear q2
          try clear hx2
          try clear c4
          try clear c6
          try clear c7
          try clear c7b0
          try clear c8
          try clear c11
          try clear c11b0
          try clear c11b1
          try clear c19
          try clear c20
          try clear c20b0
          try clear c21
          try clear c21b0
          try clear hx289_0
          try clear hx289_1
          try clear hx289_2
          try clear p2
          try clear p289
          try clear q289
          obtain ⟨x9_3, x10_3, rfl, rfl, HA, HK3, HO_7, HB⟩ := hrel
          cases gk with
          | zero => exact absurd HA.out (by simp [galleylaw22_WordsTabs.l1])
          | succ k3 =>
           have H := HA.out
           clear HA
           simp only [galleylaw22_WordsTabs.l1] at H
           by_cases c23 : 0 ≤ x8_2
           ·rw [if_pos c23] at H
            have c23b0 : decide (0 ≤ x8_2) = true := decide_eq_true c23
            clear c23
            by_cases c24 : x8_2 < (t286.length : Int)
            ·rw [if_pos c24] at H
             have c24b0 : decide (x8_2 < (t286.length : Int)) = true := decide_eq_true c24
             clear c24
             by_cases c25 : x10_3 < ((rd_T62 t286 x8_2).f1)
             ·rw [if_pos c25] at H
              have c25b0 : decide (x10_3 < ((rd_T62 t286 x8_2).f1)) = true := decide_eq_true c25
              clear c25
              replace H := Option.bind_eq_some_iff.mp H
              obtain ⟨t291, A260, H⟩ := H
              replace H : ((step_At.f k3 t291 x10_3).bind fun bt294 => (if bt294.2.2.2 = 0 then (galleylaw22_WordsTabs.j3 k3 l0 a1 t286 x8_2 x9_3 x10_3 (decide (bt294.2.1 < 1)) bt294.1 bt294.2.1 bt294.2.2.1) else (galleylaw22_WordsTabs.j3 k3 l0 a1 t286 x8_2 x9_3 x10_3 true bt294.1 bt294.2.1 bt294.2.2.1))) = some r := H
              have A26 := Aside0.mk A260
              clear A260
              replace H := Option.bind_eq_some_iff.mp H
              obtain ⟨⟨t294, t295, t296, t297⟩, A270, H⟩ := H
              replace H : (if t297 = 0 then (galleylaw22_WordsTabs.j3 k3 l0 a1 t286 x8_2 x9_3 x10_3 (decide (t295 < 1)) t294 t295 t296) else (galleylaw22_WordsTabs.j3 k3 l0 a1 t286 x8_2 x9_3 x10_3 true t294 t295 t296)) = some r := H
              have A27 := Aside0.mk A270
              clear A270
              have HC28 := Aside0.mk H
              clear H
              have p290 : 0 ≤ (x8_2 : Int) := of_decide_eq_true (by first | (with_reducible assumption) | assumption)
              have q290 : x8_2 < (t286.length : Int) := of_decide_eq_true (by first | (with_reducible assumption) | assumption)
              obtain ⟨ad290, e290, hx290_0, hx290_1, hx290_2⟩ := at_T62 (Kd.R_reads' HO_7.out).2.2 x8_2 p290 q290
              obtain rfl : ad289 = ad290 := (by injection e290)
              replace p290 := eq_true p290
              replace q290 := eq_true q290
              go_upto_region 14 with (first | ((with_reducible refine gate_callee (f := 21) rfl ?_); refine goesL_ (some 63) rfl rfl Tryd.func21 (by kernel_rfl) rfl #[.slice A0 l0.length c0] rfl (by (try simp only [List.map_toArray, List.map_cons, List.map_nil]); first | done | rfl | (simp only [List.length_drop, List.length_take]; rfl)) ?_; (with_reducible refine (galleylaw22_own.calls _ _ l0 t291 _ ?side1 ?side2 A26.out).mono ?_); (case side1 => repeat (first | exact (Kd.C_below HR0.out HB.out) | (with_reducible refine Kd.C_alloc ?_ _) | (with_reducible refine Kd.C_drewN ?_ _) | (with_reducible refine Kd.C_drew ?_))); (case side2 => exact HC0.out); rintro e w29 ⟨v292, rfl, ho0, hb⟩; refine ⟨_, rfl, ?_⟩; have n0_ := Aside0.mk (Kd.R_below (by (with_reducible repeat (first | apply Kd.R_alloc | apply Kd.R_drewN | apply Kd.R_drew)); exact HO_7.out) hb); have n1_ := Aside0.mk (Kd.R_lower ho0 (below_size (by repeat (first | (with_reducible first | exact HB.out | apply below_alloc | apply pw_below_drewN | apply below_drew1) | exact HB.out)))); have n2_ := Aside0.mk (below_step (by repeat (first | (with_reducible first | exact HB.out | apply below_alloc | apply pw_below_drewN | apply below_drew1) | exact HB.out)) hb); clear HO_7; clear HB; have HO_7 := n0_; have HO293 := n1_; have HB := n2_; clear n0_ n1_ n2_; (try clear hb); (try clear hb2); (try clear hk); (try clear hi); (try clear ho0); obtain ⟨Ao30, co30, eo30⟩ := Kd.R_slice HO293.out; subst eo30) | ((with_reducible refine gate_callee (f := 22) rfl ?_); refine goesL_ (some 65) rfl rfl Tryd.func22 (by kernel_rfl) rfl #[.slice Ao30 t291.length co30, .int .i64 x10_3] rfl (by (try simp only [List.map_toArray, List.map_cons, List.map_nil]); first | done | rfl | (simp only [List.length_drop, List.length_take]; rfl)) ?_; (with_reducible refine (step_At.calls k3 _ _ t291 x10_3 t294 t295 t296 t297 _ ?side1 ?side2 ?side3 A27.out).mono ?_); (case side1 => repeat (first | exact (Kd.R_reads' HO293.out).2.2 | (with_reducible refine Kd.C_alloc ?_ _) | (with_reducible refine Kd.C_drewN ?_ _) | (with_reducible refine Kd.C_drew ?_))); (case side2 => exact (Kd.R_reads' HO293.out).2.1); (case side3 => exact laid_below HLB.out (by repeat (first | (with_reducible first | exact HB.out | apply below_alloc | apply pw_below_drewN | apply below_drew1) | exact HB.out))); rintro e w31 ⟨rfl, hb⟩; refine ⟨_, rfl, ?_⟩; have n0_ := Aside0.mk (Kd.R_below (by (with_reducible repeat (first | apply Kd.R_alloc | apply Kd.R_drewN | apply Kd.R_drew)); exact HO_7.out) hb); have n1_ := Aside0.mk (Kd.R_below (by (with_reducible repeat (first | apply Kd.R_alloc | apply Kd.R_drewN | apply Kd.R_drew)); exact HO293.out) hb); have n2_ := Aside0.mk (below_step (by repeat (first | (with_reducible first | exact HB.out | apply below_alloc | apply pw_below_drewN | apply below_drew1) | exact HB.out)) hb); clear HO_7; clear HO293; clear HB; have HO_7 := n0_; have HO293 := n1_; have HB := n2_; clear n0_ n1_ n2_; (try clear hb); (try clear hb2); (try clear hk); (try clear hi)) | ((with_reducible refine gate_dst (N := 11) rfl ?_); refine box_event ?hg (N := 11) ?hd (cs := #[.int .i32 0, .int .i64 0, .bool false]) (t := 50) ?hr ?_; (case hd => rfl); (case hg => rfl); (case hr => first | (go_simp; done) | (go_simp; rfl)); intro gb298 hg w32 hbox hb; have n0_ := Aside0.mk (Kd.R_below (by (with_reducible repeat (first | apply Kd.R_alloc | apply Kd.R_drewN | apply Kd.R_drew)); exact HO_7.out) hb); have n1_ := Aside0.mk (Kd.R_below (by (with_reducible repeat (first | apply Kd.R_alloc | apply Kd.R_drewN | apply Kd.R_drew)); exact HO293.out) hb); have n2_ := Aside0.mk (below_step (by repeat (first | (with_reducible first | exact HB.out | apply below_alloc | apply pw_below_drewN | apply below_drew1) | exact HB.out)) hb); have n3_ := Aside0.mk (hbox); have n4_ := Aside0.mk ((by rw [hg]; exact (below_size (by repeat (first | (with_reducible first | exact HB.out | apply below_alloc | apply pw_below_drewN | apply below_drew1) | exact HB.out))) : w.heap.size ≤ gb298)); have n5_ := Aside0.mk ((by rw [hg]; exact (below_size (by repeat (first | (with_reducible first | exact HB.out | apply below_alloc | apply pw_below_drewN | apply below_drew1) | exact HB.out))) : w.heap.size ≤ gb298)); clear HO_7; clear HO293; clear HB; have HO_7 := n0_; have HO293 := n1_; have HB := n2_; have BK298 := n3_; have GW298 := n4_; have GE298 := n5_; clear n0_ n1_ n2_ n3_ n4_ n5_; clear hb hbox hg; have hcz33_0 : w32.cell? ⟨gb298, 0, none⟩ = some (.int .i32 0) := (blk_cell BK298.out 0).trans rfl; have hcz33_1 : w32.cell? ⟨gb298, 1, none⟩ = some (.int .i64 0) := (blk_cell BK298.out 1).trans rfl; have hcz33_2 : w32.cell? ⟨gb298, 2, none⟩ = some (.bool false) := (blk_cell BK298.out 2).trans rfl; have hfz33_0 := blk_frozen BK298.out 0; have hfz33_1 := blk_frozen BK298.out 1; have hfz33_2 := blk_frozen BK298.out 2))
              (try simp only [Act.put, List.setIfInBounds_toArray, List.set_cons_zero, List.set_cons_succ])
              go_cut [74] (fun v74 wc => ∃ (kq : Nat) (x74_27 : Bool), v74 = .bool x74_27 ∧ Aside0 (galleylaw22_WordsTabs.j3 kq l0 a1 t286 x8_2 x9_3 x10_3 x74_27 t294 t295 t296 = some r) ∧ Aside0 (kq ≤ k3) ∧ Aside0 (Kd.R k62 62 wc w.heap.size (fun _ => True) (.slice (some ad289) t286.length co22) t286) ∧ Aside0 (wc.heap[gb298]? = some (.cells #[.int .i32 t294, .int .i64 t295, .bool t296] 50 (0, 0))) ∧ Aside0 (Below w.heap.size w wc))
              case first =>
               have H := HC28.out
               clear HC28
               by_cases c34 : t297 = 0
               ·rw [if_pos c34] at H
                have c34b0 : (t297 == 0) = true := beq_iff_eq.mpr c34
                have c34b1 : (t297 != 0) = false := bne_eq_false_iff_eq.mpr c34
                clear c34
                (first | rw [c34b0] | (simp only [i64_w, i32_w]; rw [c34b0]) | skip)
                have H' := Aside0.mk H
                clear H
                have hcz35_0 : w32.cell? ⟨gb298, 0, none⟩ = some (.int .i32 0) := (blk_cell BK298.out 0).trans rfl
                have hcz35_1 : w32.cell? ⟨gb298, 1, none⟩ = some (.int .i64 0) := (blk_cell BK298.out 1).trans rfl
                have hcz35_2 : w32.cell? ⟨gb298, 2, none⟩ = some (.bool false) := (blk_cell BK298.out 2).trans rfl
                have hfz35_0 := blk_frozen BK298.out 0
                have hfz35_1 := blk_frozen BK298.out 1
                have hfz35_2 := blk_frozen BK298.out 2
                go_wp2
                go_meet
                case rel => exact ⟨_, (decide (t295 < 1)), (by first | rfl | (simp; done) | (simp [*]; done)), H', ⟨by have := HJ4.out; have := HK2.out; have := HK3.out; first | omega | exact Nat.le_refl _⟩, ⟨by (with_reducible repeat (first | apply Kd.R_alloc | apply Kd.R_drewN | apply Kd.R_drew)); exact Kd.R_mono (Kd.R_far (p := ⟨gb298, 2, none⟩) (Kd.R_far (p := ⟨gb298, 1, none⟩) (Kd.R_far (p := ⟨gb298, 0, none⟩) (Kd.R_types HO_7.out BK298.out (by decide)) (fun _ hk => hk.2) (.int .i32 t294)) (fun _ hk => hk.2) (.int .i64 t295)) (fun _ hk => hk.2) (.bool t296)) (fun _ hk => trivial)⟩, ⟨by (with_reducible repeat (first | refine blk_drewN ?_ _ | refine blk_drew ?_ | refine blk_alloc ?_ _)); refine blk_put (cs := #[.int .i32 t294, .int .i64 t295, .bool false]) ?_ 2 _ rfl; (with_reducible repeat (first | refine blk_drewN ?_ _ | refine blk_drew ?_ | refine blk_alloc ?_ _)); refine blk_put (cs := #[.int .i32 t294, .int .i64 0, .bool false]) ?_ 1 _ rfl; (with_reducible repeat (first | refine blk_drewN ?_ _ | refine blk_drew ?_ | refine blk_alloc ?_ _)); refine blk_put (cs := #[.int .i32 0, .int .i64 0, .bool false]) ?_ 0 _ rfl; (with_reducible repeat (first | refine blk_drewN ?_ _ | refine blk_drew ?_ | refine blk_alloc ?_ _)); exact BK298.out⟩, ⟨by repeat (first | (with_reducible first | exact HB.out | apply below_alloc | apply pw_below_drewN | apply below_drew1 | refine below_set ?_ GE298.out) | exact HB.out)⟩⟩
               ·rw [if_neg c34] at H
                have c34b0 : (t297 == 0) = false := beq_eq_false_iff_ne.mpr c34
                have c34b1 : (t297 != 0) = true := bne_iff_ne.mpr c34
                (first | rw [c34b0] | (simp only [i64_w, i32_w]; rw [c34b0]) | skip)
                have H' := Aside0.mk H
                clear H
                go_wp2
                go_meet
                case rel => exact ⟨_, (true), (by first | rfl | (simp; done) | (simp [*]; done)), H', ⟨by have := HJ4.out; have := HK2.out; have := HK3.out; first | omega | exact Nat.le_refl _⟩, ⟨by (with_reducible repeat (first | apply Kd.R_alloc | apply Kd.R_drewN | apply Kd.R_drew)); exact Kd.R_mono (Kd.R_far (p := ⟨gb298, 2, none⟩) (Kd.R_far (p := ⟨gb298, 1, none⟩) (Kd.R_far (p := ⟨gb298, 0, none⟩) (Kd.R_types HO_7.out BK298.out (by decide)) (fun _ hk => hk.2) (.int .i32 t294)) (fun _ hk => hk.2) (.int .i64 t295)) (fun _ hk => hk.2) (.bool t296)) (fun _ hk => trivial)⟩, ⟨by (with_reducible repeat (first | refine blk_drewN ?_ _ | refine blk_drew ?_ | refine blk_alloc ?_ _)); refine blk_put (cs := #[.int .i32 t294, .int .i64 t295, .bool false]) ?_ 2 _ rfl; (with_reducible repeat (first | refine blk_drewN ?_ _ | refine blk_drew ?_ | refine blk_alloc ?_ _)); refine blk_put (cs := #[.int .i32 t294, .int .i64 0, .bool false]) ?_ 1 _ rfl; (with_reducible repeat (first | refine blk_drewN ?_ _ | refine blk_drew ?_ | refine blk_alloc ?_ _)); refine blk_put (cs := #[.int .i32 0, .int .i64 0, .bool false]) ?_ 0 _ rfl; (with_reducible repeat (first | refine blk_drewN ?_ _ | refine blk_drew ?_ | refine blk_alloc ?_ _)); exact BK298.out⟩, ⟨by repeat (first | (with_reducible first | exact HB.out | apply below_alloc | apply pw_below_drewN | apply below_drew1 | refine below_set ?_ GE298.out) | exact HB.out)⟩⟩
              case rest =>
               clear HC28
               try clear c1
               try clear c2
               try clear p2
               try clear q2
               try clear hx2
               try clear c3
               try clear c4
               try clear c6
               try clear c7
               try clear c7b0
               try clear c8
               try clear c11
               try clear c11b0
               try clear c11b1
               try clear c19
               try clear c20
               try clear c20b0
               try clear c21
               try clear c21b0
               try clear c22
               try clear c23
               try clear c23b0
               try clear c24
               try clear c24b0
               try clear c25
               try clear c25b0
               try clear c26
               try clear c27
               try clear p28
               try clear q28
               try clear hx28
               try clear p29
               try clear q29
               try clear hx29
               try clear c34
               try clear c34b0
               try clear c34b1
               try clear hcz33_0
               try clear hcz33_1
               try clear hcz33_2
               try clear hcz35_0
               try clear hcz35_1
               try clear hcz35_2
               try clear hfz33_0
               try clear hfz33_1
               try clear hfz33_2
               try clear hfz35_0
               try clear hfz35_1
               try clear hfz35_2
               try clear hx289_0
               try clear hx289_1
               try clear hx289_2
               try clear hx290_0
               try clear hx290_1
               try clear hx290_2
               try clear p2
               try clear p289
               try clear p290
               try clear q2
               try clear q289
               try clear q290
               obtain ⟨kq, x74_27, rfl, HA, HJ27, HO_7, BK298, HB⟩ := hcut
               cases kq with
               | zero => exact absurd HA.out (by simp [galleylaw22_WordsTabs.j3])
               | succ kj27 =>
                have H := HA.out
                clear HA
                simp only [galleylaw22_WordsTabs.j3] at H
                by_cases c36 : x74_27 = true
                ·subst c36
                 have H1 : (some false) = some r := by rw [if_pos rfl] at H; exact H
                 clear H
                 have H := H1
                 clear H1
                 obtain rfl := Option.some.inj H
                 go_wp2
                 go_ret
                 exact ⟨by first | rfl | (simp [errW_none, errW_some] <;> rfl) | (simp [*, errW_none, errW_some] <;> rfl), by repeat (first | (with_reducible first | exact HB.out | apply below_alloc | apply pw_below_drewN | apply below_drew1 | refine below_set ?_ GE298.out) | exact HB.out)⟩
                ·replace c36 := Bool.eq_false_iff.mpr c36
                 subst c36
                 have H1 : (galleylaw22_WordsTabs.l2 kj27 l0 a1 t286 x8_2 x9_3 x10_3 x10_3 t294 t295 t296) = some r := by rw [if_neg (show ¬ (false = true) by decide)] at H; exact H
                 clear H
                 have H := H1
                 clear H1
                 have H' := Aside0.mk H
                 clear H
                 go_wp2
                 go_loopg [13] kj27 (fun kq v13 w' => ∃ (x13_5 : Int), v13 = .int .i64 x13_5 ∧ Aside0 (galleylaw22_WordsTabs.l2 kq l0 a1 t286 x8_2 x9_3 x10_3 x13_5 t294 t295 t296 = some r) ∧ Aside0 (kq ≤ kj27) ∧ Aside0 (Kd.R k62 62 w' w.heap.size (fun _ => True) (.slice (some ad289) t286.length co22) t286) ∧ Aside0 (w'.heap[gb298]? = some (.cells #[.int .i32 t294, .int .i64 t295, .bool t296] 50 (0, 0))) ∧ Aside0 (Below w.heap.size w w'))
                 case atStart => exact ⟨(x10_3), (by first | rfl | (simp; done) | (simp [*]; done)), H', ⟨Nat.le_refl _⟩, ⟨by (with_reducible repeat (first | apply Kd.R_alloc | apply Kd.R_drewN | apply Kd.R_drew)); exact HO_7.out⟩, ⟨by (with_reducible repeat (first | refine blk_drewN ?_ _ | refine blk_drew ?_ | refine blk_alloc ?_ _)); exact BK298.out⟩, ⟨by repeat (first | (with_reducible first | exact HB.out | apply below_alloc | apply pw_below_drewN | apply below_drew1 | refine below_set ?_ GE298.out) | exact HB.out)⟩⟩
                 case round =>
                  clear H'
                  try clear c1
                  try clear c2
                  try clear p2
                  try clear q2
                  try clear hx2
                  try clear c3
                  try clear c4
                  try clear c6
                  try clear c7
                  try clear c7b0
                  try clear c8
                  try clear c11
                  try clear c11b0
                  try clear c11b1
                  try clear c19
                  try clear c20
                  try clear c20b0
                  try clear c21
                  try clear c21b0
                  try clear c22
                  try clear c23
                  try clear c23b0
                  try clear c24
                  try clear c24b0
                  try clear c25
                  try clear c25b0
                  try clear c26
                  try clear c27
                  try clear p28
                  try clear q28
                  try clear hx28
                  try clear p29
                  try clear q29
                  try clear hx29
                  try clear c34
                  try clear c34b0
                  try clear c34b1
                  try clear c36
                  try clear hcz33_0
                  try clear hcz33_1
                  try clear hcz33_2
                  try clear hcz35_0
                  try clear hcz35_1
                  try clear hcz35_2
                  try clear hfz33_0
                  try clear hfz33_1
                  try clear hfz33_2
                  try clear hfz35_0
                  try clear hfz35_1
                  try clear hfz35_2
                  try clear hx289_0
                  try clear hx289_1
                  try clear hx289_2
                  try clear hx290_0
                  try clear hx290_1
                  try clear hx290_2
                  try clear p2
                  try clear p28
                  try clear p289
                  try clear p29
                  try clear p290
                  try clear q2
                  try clear q28
                  try clear q289
                  try clear q29
                  try clear q290
                  obtain ⟨x13_5, rfl, HA, HK5, HO_7, BK298, HB⟩ := hrel
                  cases gk with
                  | zero => exact absurd HA.out (by simp [galleylaw22_WordsTabs.l2])
                  | succ k5 =>
                   have H := HA.out
                   clear HA
                   simp only [galleylaw22_WordsTabs.l2] at H
                   by_cases c37 : x13_5 < (wrap64 (x10_3 + t295))
                   ·rw [if_pos c37] at H
                    have c37b0 : decide (x13_5 < (wrap64 (x10_3 + t295))) = true := decide_eq_true c37
                    clear c37
                    replace H := Option.bind_eq_some_iff.mp H
                    obtain ⟨t299, A380, H⟩ := H
                    replace H : ((words_Column.f t299 x13_5 a1).bind fun bt302 => (if bt302.2 = 0 then (if bt302.1 = x9_3 then (galleylaw22_WordsTabs.l2 k5 l0 a1 t286 x8_2 x9_3 x10_3 (wrap64 (x13_5 + 1)) t294 t295 t296) else (some false)) else (some false))) = some r := H
                    have A38 := Aside0.mk A380
                    clear A380
                    replace H := Option.bind_eq_some_iff.mp H
                    obtain ⟨⟨t302, t303⟩, A390, H⟩ := H
                    replace H : (if t303 = 0 then (if t302 = x9_3 then (galleylaw22_WordsTabs.l2 k5 l0 a1 t286 x8_2 x9_3 x10_3 (wrap64 (x13_5 + 1)) t294 t295 t296) else (some false)) else (some false)) = some r := H
                    have A39 := Aside0.mk A390
                    clear A390
                    by_cases c40 : t303 = 0
                    ·rw [if_pos c40] at H
                     have c40b0 : (t303 == 0) = true := beq_iff_eq.mpr c40
                     have c40b1 : (t303 != 0) = false := bne_eq_false_iff_eq.mpr c40
                     clear c40
                     by_cases c41 : t302 = x9_3
                     ·rw [if_pos c41] at H
                      have c41b0 : (t302 == x9_3) = true := beq_iff_eq.mpr c41
                      have c41b1 : (t302 != x9_3) = false := bne_eq_false_iff_eq.mpr c41
                      clear c41
                      have H' := Aside0.mk H
                      clear H
                      have hcz42_0 : wr.cell? ⟨gb298, 0, none⟩ = some (.int .i32 t294) := (blk_cell BK298.out 0).trans rfl
                      have hcz42_1 : wr.cell? ⟨gb298, 1, none⟩ = some (.int .i64 t295) := (blk_cell BK298.out 1).trans rfl
                      have hcz42_2 : wr.cell? ⟨gb298, 2, none⟩ = some (.bool t296) := (blk_cell BK298.out 2).trans rfl
                      have hfz42_0 := blk_frozen BK298.out 0
                      have hfz42_1 := blk_frozen BK298.out 1
                      have hfz42_2 := blk_frozen BK298.out 2
                      go_wp2_with (first | ((with_reducible refine gate_callee (f := 21) rfl ?_); refine goesL_ (some 86) rfl rfl Tryd.func21 (by kernel_rfl) rfl #[.slice A0 l0.length c0] rfl (by (try simp only [List.map_toArray, List.map_cons, List.map_nil]); first | done | rfl | (simp only [List.length_drop, List.length_take]; rfl)) ?_; (with_reducible refine (galleylaw22_own.calls _ _ l0 t299 _ ?side1 ?side2 A38.out).mono ?_); (case side1 => repeat (first | exact (Kd.C_below HR0.out HB.out) | (with_reducible refine Kd.C_alloc ?_ _) | (with_reducible refine Kd.C_drewN ?_ _) | (with_reducible refine Kd.C_drew ?_))); (case side2 => exact HC0.out); rintro e w43 ⟨v300, rfl, ho0, hb⟩; refine ⟨_, rfl, ?_⟩; have n0_ := Aside0.mk (Kd.R_below (by (with_reducible repeat (first | apply Kd.R_alloc | apply Kd.R_drewN | apply Kd.R_drew)); exact HO_7.out) hb); have n1_ := Aside0.mk (Kd.R_lower ho0 (below_size (by repeat (first | (with_reducible first | exact HB.out | apply below_alloc | apply pw_below_drewN | apply below_drew1 | refine below_set ?_ GE298.out) | exact HB.out)))); have n2_ := Aside0.mk (blk_below (g := gb298) (o := .cells #[.int .i32 t294, .int .i64 t295, .bool t296] 50 (0, 0)) (by (with_reducible repeat (first | refine blk_drewN ?_ _ | refine blk_drew ?_ | refine blk_alloc ?_ _)); exact BK298.out) hb); have n3_ := Aside0.mk (below_step (by repeat (first | (with_reducible first | exact HB.out | apply below_alloc | apply pw_below_drewN | apply below_drew1 | refine below_set ?_ GE298.out) | exact HB.out)) hb); clear HO_7; clear BK298; clear HB; have HO_7 := n0_; have HO301 := n1_; have BK298 := n2_; have HB := n3_; clear n0_ n1_ n2_ n3_; (try clear hb); (try clear hb2); (try clear hk); (try clear hi); (try clear ho0); obtain ⟨Ao44, co44, eo44⟩ := Kd.R_slice HO301.out; subst eo44) | ((with_reducible refine gate_callee (f := 26) rfl ?_); refine goesL_ (some 89) rfl rfl Tryd.func26 (by kernel_rfl) rfl #[.slice Ao44 t299.length co44, .int .i64 x13_5, .int .i64 a1] rfl (by (try simp only [List.map_toArray, List.map_cons, List.map_nil]); first | done | rfl | (simp only [List.length_drop, List.length_take]; rfl)) ?_; (with_reducible refine (words_Column.calls _ _ t299 x13_5 a1 t302 t303 _ ?side1 ?side2 ?side3 A39.out).mono ?_); (case side1 => repeat (first | exact (Kd.R_reads' HO301.out).2.2 | (with_reducible refine Kd.C_alloc ?_ _) | (with_reducible refine Kd.C_drewN ?_ _) | (with_reducible refine Kd.C_drew ?_))); (case side2 => exact (Kd.R_reads' HO301.out).2.1); (case side3 => exact laid_below HLB.out (by repeat (first | (with_reducible first | exact HB.out | apply below_alloc | apply pw_below_drewN | apply below_drew1 | refine below_set ?_ GE298.out) | exact HB.out))); rintro e w45 ⟨rfl, hb⟩; refine ⟨_, rfl, ?_⟩; have n0_ := Aside0.mk (Kd.R_below (by (with_reducible repeat (first | apply Kd.R_alloc | apply Kd.R_drewN | apply Kd.R_drew)); exact HO_7.out) hb); have n1_ := Aside0.mk (Kd.R_below (by (with_reducible repeat (first | apply Kd.R_alloc | apply Kd.R_drewN | apply Kd.R_drew)); exact HO301.out) hb); have n2_ := Aside0.mk (blk_below (g := gb298) (o := .cells #[.int .i32 t294, .int .i64 t295, .bool t296] 50 (0, 0)) (by (with_reducible repeat (first | refine blk_drewN ?_ _ | refine blk_drew ?_ | refine blk_alloc ?_ _)); exact BK298.out) hb); have n3_ := Aside0.mk (below_step (by repeat (first | (with_reducible first | exact HB.out | apply below_alloc | apply pw_below_drewN | apply below_drew1 | refine below_set ?_ GE298.out) | exact HB.out)) hb); clear HO_7; clear HO301; clear BK298; clear HB; have HO_7 := n0_; have HO301 := n1_; have BK298 := n2_; have HB := n3_; clear n0_ n1_ n2_ n3_; (try clear hb); (try clear hb2); (try clear hk); (try clear hi)))
                      go_roundg k5
                      case measure => have := HJ4.out; have := HK2.out; have := HK3.out; have := HJ27.out; have := HK5.out; omega
                      case rel => exact ⟨(wrap64 (x13_5 + 1)), (by first | rfl | (simp; done) | (simp [*]; done)), H', ⟨by have := HJ4.out; have := HK2.out; have := HK3.out; have := HJ27.out; have := HK5.out; omega⟩, ⟨by (with_reducible repeat (first | apply Kd.R_alloc | apply Kd.R_drewN | apply Kd.R_drew)); exact HO_7.out⟩, ⟨by (with_reducible repeat (first | refine blk_drewN ?_ _ | refine blk_drew ?_ | refine blk_alloc ?_ _)); exact BK298.out⟩, ⟨by repeat (first | (with_reducible first | exact HB.out | apply below_alloc | apply pw_below_drewN | apply below_drew1 | refine below_set ?_ GE298.out) | exact HB.out)⟩⟩
                     ·rw [if_neg c41] at H
                      have c41b0 : (t302 == x9_3) = false := beq_eq_false_iff_ne.mpr c41
                      have c41b1 : (t302 != x9_3) = true := bne_iff_ne.mpr c41
                      obtain rfl := Option.some.inj H
                      have hcz46_0 : wr.cell? ⟨gb298, 0, none⟩ = some (.int .i32 t294) := (blk_cell BK298.out 0).trans rfl
                      have hcz46_1 : wr.cell? ⟨gb298, 1, none⟩ = some (.int .i64 t295) := (blk_cell BK298.out 1).trans rfl
                      have hcz46_2 : wr.cell? ⟨gb298, 2, none⟩ = some (.bool t296) := (blk_cell BK298.out 2).trans rfl
                      have hfz46_0 := blk_frozen BK298.out 0
                      have hfz46_1 := blk_frozen BK298.out 1
                      have hfz46_2 := blk_frozen BK298.out 2
                      go_wp2_with (first | ((with_reducible refine gate_callee (f := 21) rfl ?_); refine goesL_ (some 86) rfl rfl Tryd.func21 (by kernel_rfl) rfl #[.slice A0 l0.length c0] rfl (by (try simp only [List.map_toArray, List.map_cons, List.map_nil]); first | done | rfl | (simp only [List.length_drop, List.length_take]; rfl)) ?_; (with_reducible refine (galleylaw22_own.calls _ _ l0 t299 _ ?side1 ?side2 A38.out).mono ?_); (case side1 => repeat (first | exact (Kd.C_below HR0.out HB.out) | (with_reducible refine Kd.C_alloc ?_ _) | (with_reducible refine Kd.C_drewN ?_ _) | (with_reducible refine Kd.C_drew ?_))); (case side2 => exact HC0.out); rintro e w47 ⟨v300, rfl, ho0, hb⟩; refine ⟨_, rfl, ?_⟩; have n0_ := Aside0.mk (Kd.R_below (by (with_reducible repeat (first | apply Kd.R_alloc | apply Kd.R_drewN | apply Kd.R_drew)); exact HO_7.out) hb); have n1_ := Aside0.mk (Kd.R_lower ho0 (below_size (by repeat (first | (with_reducible first | exact HB.out | apply below_alloc | apply pw_below_drewN | apply below_drew1 | refine below_set ?_ GE298.out) | exact HB.out)))); have n2_ := Aside0.mk (blk_below (g := gb298) (o := .cells #[.int .i32 t294, .int .i64 t295, .bool t296] 50 (0, 0)) (by (with_reducible repeat (first | refine blk_drewN ?_ _ | refine blk_drew ?_ | refine blk_alloc ?_ _)); exact BK298.out) hb); have n3_ := Aside0.mk (below_step (by repeat (first | (with_reducible first | exact HB.out | apply below_alloc | apply pw_below_drewN | apply below_drew1 | refine below_set ?_ GE298.out) | exact HB.out)) hb); clear HO_7; clear BK298; clear HB; have HO_7 := n0_; have HO301 := n1_; have BK298 := n2_; have HB := n3_; clear n0_ n1_ n2_ n3_; (try clear hb); (try clear hb2); (try clear hk); (try clear hi); (try clear ho0); obtain ⟨Ao48, co48, eo48⟩ := Kd.R_slice HO301.out; subst eo48) | ((with_reducible refine gate_callee (f := 26) rfl ?_); refine goesL_ (some 89) rfl rfl Tryd.func26 (by kernel_rfl) rfl #[.slice Ao48 t299.length co48, .int .i64 x13_5, .int .i64 a1] rfl (by (try simp only [List.map_toArray, List.map_cons, List.map_nil]); first | done | rfl | (simp only [List.length_drop, List.length_take]; rfl)) ?_; (with_reducible refine (words_Column.calls _ _ t299 x13_5 a1 t302 t303 _ ?side1 ?side2 ?side3 A39.out).mono ?_); (case side1 => repeat (first | exact (Kd.R_reads' HO301.out).2.2 | (with_reducible refine Kd.C_alloc ?_ _) | (with_reducible refine Kd.C_drewN ?_ _) | (with_reducible refine Kd.C_drew ?_))); (case side2 => exact (Kd.R_reads' HO301.out).2.1); (case side3 => exact laid_below HLB.out (by repeat (first | (with_reducible first | exact HB.out | apply below_alloc | apply pw_below_drewN | apply below_drew1 | refine below_set ?_ GE298.out) | exact HB.out))); rintro e w49 ⟨rfl, hb⟩; refine ⟨_, rfl, ?_⟩; have n0_ := Aside0.mk (Kd.R_below (by (with_reducible repeat (first | apply Kd.R_alloc | apply Kd.R_drewN | apply Kd.R_drew)); exact HO_7.out) hb); have n1_ := Aside0.mk (Kd.R_below (by (with_reducible repeat (first | apply Kd.R_alloc | apply Kd.R_drewN | apply Kd.R_drew)); exact HO301.out) hb); have n2_ := Aside0.mk (blk_below (g := gb298) (o := .cells #[.int .i32 t294, .int .i64 t295, .bool t296] 50 (0, 0)) (by (with_reducible repeat (first | refine blk_drewN ?_ _ | refine blk_drew ?_ | refine blk_alloc ?_ _)); exact BK298.out) hb); have n3_ := Aside0.mk (below_step (by repeat (first | (with_reducible first | exact HB.out | apply below_alloc | apply pw_below_drewN | apply below_drew1 | refine below_set ?_ GE298.out) | exact HB.out)) hb); clear HO_7; clear HO301; clear BK298; clear HB; have HO_7 := n0_; have HO301 := n1_; have BK298 := n2_; have HB := n3_; clear n0_ n1_ n2_ n3_; (try clear hb); (try clear hb2); (try clear hk); (try clear hi)))
                      go_ret
                      exact ⟨by first | rfl | (simp [errW_none, errW_some] <;> rfl) | (simp [*, errW_none, errW_some] <;> rfl), by repeat (first | (with_reducible first | exact HB.out | apply below_alloc | apply pw_below_drewN | apply below_drew1 | refine below_set ?_ GE298.out) | exact HB.out)⟩
                    ·rw [if_neg c40] at H
                     have c40b0 : (t303 == 0) = false := beq_eq_false_iff_ne.mpr c40
                     have c40b1 : (t303 != 0) = true := bne_iff_ne.mpr c40
                     obtain rfl := Option.some.inj H
                     have hcz50_0 : wr.cell? ⟨gb298, 0, none⟩ = some (.int .i32 t294) := (blk_cell BK298.out 0).trans rfl
                     have hcz50_1 : wr.cell? ⟨gb298, 1, none⟩ = some (.int .i64 t295) := (blk_cell BK298.out 1).trans rfl
                     have hcz50_2 : wr.cell? ⟨gb298, 2, none⟩ = some (.bool t296) := (blk_cell BK298.out 2).trans rfl
                     have hfz50_0 := blk_frozen BK298.out 0
                     have hfz50_1 := blk_frozen BK298.out 1
                     have hfz50_2 := blk_frozen BK298.out 2
                     go_wp2_with (first | ((with_reducible refine gate_callee (f := 21) rfl ?_); refine goesL_ (some 86) rfl rfl Tryd.func21 (by kernel_rfl) rfl #[.slice A0 l0.length c0] rfl (by (try simp only [List.map_toArray, List.map_cons, List.map_nil]); first | done | rfl | (simp only [List.length_drop, List.length_take]; rfl)) ?_; (with_reducible refine (galleylaw22_own.calls _ _ l0 t299 _ ?side1 ?side2 A38.out).mono ?_); (case side1 => repeat (first | exact (Kd.C_below HR0.out HB.out) | (with_reducible refine Kd.C_alloc ?_ _) | (with_reducible refine Kd.C_drewN ?_ _) | (with_reducible refine Kd.C_drew ?_))); (case side2 => exact HC0.out); rintro e w51 ⟨v300, rfl, ho0, hb⟩; refine ⟨_, rfl, ?_⟩; have n0_ := Aside0.mk (Kd.R_below (by (with_reducible repeat (first | apply Kd.R_alloc | apply Kd.R_drewN | apply Kd.R_drew)); exact HO_7.out) hb); have n1_ := Aside0.mk (Kd.R_lower ho0 (below_size (by repeat (first | (with_reducible first | exact HB.out | apply below_alloc | apply pw_below_drewN | apply below_drew1 | refine below_set ?_ GE298.out) | exact HB.out)))); have n2_ := Aside0.mk (blk_below (g := gb298) (o := .cells #[.int .i32 t294, .int .i64 t295, .bool t296] 50 (0, 0)) (by (with_reducible repeat (first | refine blk_drewN ?_ _ | refine blk_drew ?_ | refine blk_alloc ?_ _)); exact BK298.out) hb); have n3_ := Aside0.mk (below_step (by repeat (first | (with_reducible first | exact HB.out | apply below_alloc | apply pw_below_drewN | apply below_drew1 | refine below_set ?_ GE298.out) | exact HB.out)) hb); clear HO_7; clear BK298; clear HB; have HO_7 := n0_; have HO301 := n1_; have BK298 := n2_; have HB := n3_; clear n0_ n1_ n2_ n3_; (try clear hb); (try clear hb2); (try clear hk); (try clear hi); (try clear ho0); obtain ⟨Ao52, co52, eo52⟩ := Kd.R_slice HO301.out; subst eo52) | ((with_reducible refine gate_callee (f := 26) rfl ?_); refine goesL_ (some 89) rfl rfl Tryd.func26 (by kernel_rfl) rfl #[.slice Ao52 t299.length co52, .int .i64 x13_5, .int .i64 a1] rfl (by (try simp only [List.map_toArray, List.map_cons, List.map_nil]); first | done | rfl | (simp only [List.length_drop, List.length_take]; rfl)) ?_; (with_reducible refine (words_Column.calls _ _ t299 x13_5 a1 t302 t303 _ ?side1 ?side2 ?side3 A39.out).mono ?_); (case side1 => repeat (first | exact (Kd.R_reads' HO301.out).2.2 | (with_reducible refine Kd.C_alloc ?_ _) | (with_reducible refine Kd.C_drewN ?_ _) | (with_reducible refine Kd.C_drew ?_))); (case side2 => exact (Kd.R_reads' HO301.out).2.1); (case side3 => exact laid_below HLB.out (by repeat (first | (with_reducible first | exact HB.out | apply below_alloc | apply pw_below_drewN | apply below_drew1 | refine below_set ?_ GE298.out) | exact HB.out))); rintro e w53 ⟨rfl, hb⟩; refine ⟨_, rfl, ?_⟩; have n0_ := Aside0.mk (Kd.R_below (by (with_reducible repeat (first | apply Kd.R_alloc | apply Kd.R_drewN | apply Kd.R_drew)); exact HO_7.out) hb); have n1_ := Aside0.mk (Kd.R_below (by (with_reducible repeat (first | apply Kd.R_alloc | apply Kd.R_drewN | apply Kd.R_drew)); exact HO301.out) hb); have n2_ := Aside0.mk (blk_below (g := gb298) (o := .cells #[.int .i32 t294, .int .i64 t295, .bool t296] 50 (0, 0)) (by (with_reducible repeat (first | refine blk_drewN ?_ _ | refine blk_drew ?_ | refine blk_alloc ?_ _)); exact BK298.out) hb); have n3_ := Aside0.mk (below_step (by repeat (first | (with_reducible first | exact HB.out | apply below_alloc | apply pw_below_drewN | apply below_drew1 | refine below_set ?_ GE298.out) | exact HB.out)) hb); clear HO_7; clear HO301; clear BK298; clear HB; have HO_7 := n0_; have HO301 := n1_; have BK298 := n2_; have HB := n3_; clear n0_ n1_ n2_ n3_; (try clear hb); (try clear hb2); (try clear hk); (try clear hi)))
                     go_ret
                     exact ⟨by first | rfl | (simp [errW_none, errW_some] <;> rfl) | (simp [*, errW_none, errW_some] <;> rfl), by repeat (first | (with_reducible first | exact HB.out | apply below_alloc | apply pw_below_drewN | apply below_drew1 | refine below_set ?_ GE298.out) | exact HB.out)⟩
                   ·rw [if_neg c37] at H
                    have c37b0 : decide (x13_5 < (wrap64 (x10_3 + t295))) = false := decide_eq_false c37
                    clear c37
                    by_cases c54 : t294 = 9
                    ·rw [if_pos c54] at H
                     have c54b0 : (t294 == 9) = true := beq_iff_eq.mpr c54
                     have c54b1 : (t294 != 9) = false := bne_eq_false_iff_eq.mpr c54
                     clear c54
                     have H' := Aside0.mk H
                     clear H
                     have hcz55_0 : wr.cell? ⟨gb298, 0, none⟩ = some (.int .i32 t294) := (blk_cell BK298.out 0).trans rfl
                     have hcz55_1 : wr.cell? ⟨gb298, 1, none⟩ = some (.int .i64 t295) := (blk_cell BK298.out 1).trans rfl
                     have hcz55_2 : wr.cell? ⟨gb298, 2, none⟩ = some (.bool t296) := (blk_cell BK298.out 2).trans rfl
                     have hfz55_0 := blk_frozen BK298.out 0
                     have hfz55_1 := blk_frozen BK298.out 1
                     have hfz55_2 := blk_frozen BK298.out 2
                     go_wp2
                     go_loopg [9] k5 (fun kq v9 w' => ∃ (x9_6 : Int), v9 = .int .i64 x9_6 ∧ Aside0 (galleylaw22_WordsTabs.l3 kq l0 a1 t286 x8_2 x9_6 x10_3 x9_3 t294 t295 t296 = some r) ∧ Aside0 (kq ≤ k5) ∧ Aside0 (Kd.R k62 62 w' w.heap.size (fun _ => True) (.slice (some ad289) t286.length co22) t286) ∧ Aside0 (w'.heap[gb298]? = some (.cells #[.int .i32 t294, .int .i64 t295, .bool t296] 50 (0, 0))) ∧ Aside0 (Below w.heap.size w w'))
                     case atStart => exact ⟨(wrap64 (x9_3 + 1)), (by first | rfl | (simp; done) | (simp [*]; done)), H', ⟨Nat.le_refl _⟩, ⟨by (with_reducible repeat (first | apply Kd.R_alloc | apply Kd.R_drewN | apply Kd.R_drew)); exact HO_7.out⟩, ⟨by (with_reducible repeat (first | refine blk_drewN ?_ _ | refine blk_drew ?_ | refine blk_alloc ?_ _)); exact BK298.out⟩, ⟨by repeat (first | (with_reducible first | exact HB.out | apply below_alloc | apply pw_below_drewN | apply below_drew1 | refine below_set ?_ GE298.out) | exact HB.out)⟩⟩
                     case round =>
                      clear H'
                      try clear c1
                      try clear c2
                      try clear p2
                      try clear q2
                      try clear hx2
                      try clear c3
                      try clear c4
                      try clear c5
                      try clear c6
                      try clear p6
                      try clear c7
                      try clear c7b0
                      try clear c8
                      try clear c11
                      try clear c11b0
                      try clear c11b1
                      try clear c19
                      try clear c20
                      try clear c20b0
                      try clear c21
                      try clear c21b0
                      try clear c22
                      try clear c23
                      try clear c23b0
                      try clear c24
                      try clear c24b0
                      try clear c25
                      try clear c25b0
                      try clear c26
                      try clear c27
                      try clear p28
                      try clear q28
                      try clear hx28
                      try clear p29
                      try clear q29
                      try clear hx29
                      try clear c34
                      try clear c34b0
                      try clear c34b1
                      try clear c36
                      try clear c37
                      try clear c37b0
                      try clear c40
                      try clear c40b0
                      try clear c40b1
                      try clear c41
                      try clear c41b0
                      try clear c41b1
                      try clear c54
                      try clear c54b0
                      try clear c54b1
                      try clear hcz33_0
                      try clear hcz33_1
                      try clear hcz33_2
                      try clear hcz35_0
                      try clear hcz35_1
                      try clear hcz35_2
                      try clear hcz42_0
                      try clear hcz42_1
                      try clear hcz42_2
                      try clear hcz46_0
                      try clear hcz46_1
                      try clear hcz46_2
                      try clear hcz50_0
                      try clear hcz50_1
                      try clear hcz50_2
                      try clear hcz55_0
                      try clear hcz55_1
                      try clear hcz55_2
                      try clear hfz33_0
                      try clear hfz33_1
                      try clear hfz33_2
                      try clear hfz35_0
                      try clear hfz35_1
                      try clear hfz35_2
                      try clear hfz42_0
                      try clear hfz42_1
                      try clear hfz42_2
                      try clear hfz46_0
                      try clear hfz46_1
                      try clear hfz46_2
                      try clear hfz50_0
                      try clear hfz50_1
                      try clear hfz50_2
                      try clear hfz55_0
                      try clear hfz55_1
                      try clear hfz55_2
                      try clear hx289_0
                      try clear hx289_1
                      try clear hx289_2
                      try clear hx290_0
                      try clear hx290_1
                      try clear hx290_2
                      try clear p2
                      try clear p28
                      try clear p289
                      try clear p29
                      try clear p290
                      try clear q2
                      try clear q28
                      try clear q289
                      try clear q29
                      try clear q290
                      obtain ⟨x9_6, rfl, HA, HK6, HO_7, BK298, HB⟩ := hrel
                      cases gk with
                      | zero => exact absurd HA.out (by simp [galleylaw22_WordsTabs.l3])
                      | succ k6 =>
                       have H := HA.out
                       clear HA
                       simp only [galleylaw22_WordsTabs.l3] at H
                       by_cases c56 : a1 = 0
                       ·rw [if_pos c56] at H
                        exact absurd H (by simp)
                       ·rw [if_neg c56] at H
                        have c56b0 : (a1 == 0) = false := beq_eq_false_iff_ne.mpr c56
                        have c56b1 : (a1 != 0) = true := bne_iff_ne.mpr c56
                        by_cases c57 : (Int.tmod x9_6 a1) = 0
                        ·rw [if_pos c57] at H
                         have c57b0 : ((Int.tmod x9_6 a1) == 0) = true := beq_iff_eq.mpr c57
                         have c57b1 : ((Int.tmod x9_6 a1) != 0) = false := bne_eq_false_iff_eq.mpr c57
                         clear c57
                         by_cases c58 : x9_6 ≤ x9_3
                         ·rw [if_pos c58] at H
                          have c58b0 : decide (x9_6 ≤ x9_3) = true := decide_eq_true c58
                          clear c58
                          obtain rfl := Option.some.inj H
                          have hcz59_0 : wr.cell? ⟨gb298, 0, none⟩ = some (.int .i32 t294) := (blk_cell BK298.out 0).trans rfl
                          have hcz59_1 : wr.cell? ⟨gb298, 1, none⟩ = some (.int .i64 t295) := (blk_cell BK298.out 1).trans rfl
                          have hcz59_2 : wr.cell? ⟨gb298, 2, none⟩ = some (.bool t296) := (blk_cell BK298.out 2).trans rfl
                          have hfz59_0 := blk_frozen BK298.out 0
                          have hfz59_1 := blk_frozen BK298.out 1
                          have hfz59_2 := blk_frozen BK298.out 2
                          go_wp2
                          go_ret
                          exact ⟨by first | rfl | (simp [errW_none, errW_some] <;> rfl) | (simp [*, errW_none, errW_some] <;> rfl), by repeat (first | (with_reducible first | exact HB.out | apply below_alloc | apply pw_below_drewN | apply below_drew1 | refine below_set ?_ GE298.out) | exact HB.out)⟩
                         ·rw [if_neg c58] at H
                          have c58b0 : decide (x9_6 ≤ x9_3) = false := decide_eq_false c58
                          clear c58
                          have H' := Aside0.mk H
                          clear H
                          have hcz60_0 : wr.cell? ⟨gb298, 0, none⟩ = some (.int .i32 t294) := (blk_cell BK298.out 0).trans rfl
                          have hcz60_1 : wr.cell? ⟨gb298, 1, none⟩ = some (.int .i64 t295) := (blk_cell BK298.out 1).trans rfl
                          have hcz60_2 : wr.cell? ⟨gb298, 2, none⟩ = some (.bool t296) := (blk_cell BK298.out 2).trans rfl
                          have hfz60_0 := blk_frozen BK298.out 0
                          have hfz60_1 := blk_frozen BK298.out 1
                          have hfz60_2 := blk_frozen BK298.out 2
                          go_wp2
                          go_roundg k6
                          case measure => have := HJ4.out; have := HK2.out; have := HK3.out; have := HJ27.out; have := HK5.out; have := HK6.out; omega
                          case rel => exact ⟨(x9_6), (wrap64 (x10_3 + t295)), (by first | rfl | (simp; done) | (simp [*]; done)), (by first | rfl | (simp; done) | (simp [*]; done)), H', ⟨by have := HJ4.out; have := HK2.out; have := HK3.out; have := HJ27.out; have := HK5.out; have := HK6.out; omega⟩, ⟨by (with_reducible repeat (first | apply Kd.R_alloc | apply Kd.R_drewN | apply Kd.R_drew)); exact HO_7.out⟩, ⟨by repeat (first | (with_reducible first | exact HB.out | apply below_alloc | apply pw_below_drewN | apply below_drew1 | refine below_set ?_ GE298.out) | exact HB.out)⟩⟩
                        ·rw [if_neg c57] at H
                         have c57b0 : ((Int.tmod x9_6 a1) == 0) = false := beq_eq_false_iff_ne.mpr c57
                         have c57b1 : ((Int.tmod x9_6 a1) != 0) = true := bne_iff_ne.mpr c57
                         have H' := Aside0.mk H
                         clear H
                         go_wp2
                         go_roundg k6
                         case measure => have := HJ4.out; have := HK2.out; have := HK3.out; have := HJ27.out; have := HK5.out; have := HK6.out; omega
                         case rel => exact ⟨(wrap64 (x9_6 + 1)), (by first | rfl | (simp; done) | (simp [*]; done)), H', ⟨by have := HJ4.out; have := HK2.out; have := HK3.out; have := HJ27.out; have := HK5.out; have := HK6.out; omega⟩, ⟨by (with_reducible repeat (first | apply Kd.R_alloc | apply Kd.R_drewN | apply Kd.R_drew)); exact HO_7.out⟩, ⟨by (with_reducible repeat (first | refine blk_drewN ?_ _ | refine blk_drew ?_ | refine blk_alloc ?_ _)); exact BK298.out⟩, ⟨by repeat (first | (with_reducible first | exact HB.out | apply below_alloc | apply pw_below_drewN | apply below_drew1 | refine below_set ?_ GE298.out) | exact HB.out)⟩⟩
                    ·rw [if_neg c54] at H
                     have c54b0 : (t294 == 9) = false := beq_eq_false_iff_ne.mpr c54
                     have c54b1 : (t294 != 9) = true := bne_iff_ne.mpr c54
                     by_cases c61 : (wrap64 (x9_3 + 1)) ≤ x9_3
                     ·rw [if_pos c61] at H
                      have c61b0 : decide ((wrap64 (x9_3 + 1)) ≤ x9_3) = true := decide_eq_true c61
                      clear c61
                      obtain rfl := Option.some.inj H
                      have hcz62_0 : wr.cell? ⟨gb298, 0, none⟩ = some (.int .i32 t294) := (blk_cell BK298.out 0).trans rfl
                      have hcz62_1 : wr.cell? ⟨gb298, 1, none⟩ = some (.int .i64 t295) := (blk_cell BK298.out 1).trans rfl
                      have hcz62_2 : wr.cell? ⟨gb298, 2, none⟩ = some (.bool t296) := (blk_cell BK298.out 2).trans rfl
                      have hfz62_0 := blk_frozen BK298.out 0
                      have hfz62_1 := blk_frozen BK298.out 1
                      have hfz62_2 := blk_frozen BK298.out 2
                      go_wp2
                      go_ret
                      exact ⟨by first | rfl | (simp [errW_none, errW_some] <;> rfl) | (simp [*, errW_none, errW_some] <;> rfl), by repeat (first | (with_reducible first | exact HB.out | apply below_alloc | apply pw_below_drewN | apply below_drew1 | refine below_set ?_ GE298.out) | exact HB.out)⟩
                     ·rw [if_neg c61] at H
                      have c61b0 : decide ((wrap64 (x9_3 + 1)) ≤ x9_3) = false := decide_eq_false c61
                      clear c61
                      have H' := Aside0.mk H
                      clear H
                      have hcz63_0 : wr.cell? ⟨gb298, 0, none⟩ = some (.int .i32 t294) := (blk_cell BK298.out 0).trans rfl
                      have hcz63_1 : wr.cell? ⟨gb298, 1, none⟩ = some (.int .i64 t295) := (blk_cell BK298.out 1).trans rfl
                      have hcz63_2 : wr.cell? ⟨gb298, 2, none⟩ = some (.bool t296) := (blk_cell BK298.out 2).trans rfl
                      have hfz63_0 := blk_frozen BK298.out 0
                      have hfz63_1 := blk_frozen BK298.out 1
                      have hfz63_2 := blk_frozen BK298.out 2
                      go_wp2
                      go_roundg k5
                      case measure => have := HJ4.out; have := HK2.out; have := HK3.out; have := HJ27.out; have := HK5.out; omega
                      case rel => exact ⟨(wrap64 (x9_3 + 1)), (wrap64 (x10_3 + t295)), (by first | rfl | (simp; done) | (simp [*]; done)), (by first | rfl | (simp; done) | (simp [*]; done)), H', ⟨by have := HJ4.out; have := HK2.out; have := HK3.out; have := HJ27.out; have := HK5.out; omega⟩, ⟨by (with_reducible repeat (first | apply Kd.R_alloc | apply Kd.R_drewN | apply Kd.R_drew)); exact HO_7.out⟩, ⟨by repeat (first | (with_reducible first | exact HB.out | apply below_alloc | apply pw_below_drewN | apply below_drew1 | refine below_set ?_ GE298.out) | exact HB.out)⟩⟩
             ·rw [if_neg c25] at H
              have c25b0 : decide (x10_3 < ((rd_T62 t286 x8_2).f1)) = false := decide_eq_false c25
              clear c25
              have H' := Aside0.mk H
              clear H
              have p290 : 0 ≤ (x8_2 : Int) := of_decide_eq_true (by first | (with_reducible assumption) | assumption)
              have q290 : x8_2 < (t286.length : Int) := of_decide_eq_true (by first | (with_reducible assumption) | assumption)
              obtain ⟨ad290, e290, hx290_0, hx290_1, hx290_2⟩ := at_T62 (Kd.R_reads' HO_7.out).2.2 x8_2 p290 q290
              obtain rfl : ad289 = ad290 := (by injection e290)
              replace p290 := eq_true p290
              replace q290 := eq_true q290
              have p304 : 0 ≤ (x8_2 : Int) := of_decide_eq_true (by first | (with_reducible assumption) | assumption)
              have q304 : x8_2 < (t286.length : Int) := of_decide_eq_true (by first | (with_reducible assumption) | assumption)
              obtain ⟨ad304, e304, hx304_0, hx304_1, hx304_2⟩ := at_T62 (Kd.R_reads' HO_7.out).2.2 x8_2 p304 q304
              obtain rfl : ad289 = ad304 := (by injection e304)
              replace p304 := eq_true p304
              replace q304 := eq_true q304
              go_wp2
              go_loopg [17] k3 (fun kq v17 w' => ∃ (x17_4 : Int), v17 = .int .i64 x17_4 ∧ Aside0 (galleylaw22_WordsTabs.l4 kq l0 a1 t286 x8_2 x9_3 x17_4 = some r) ∧ Aside0 (kq ≤ k3) ∧ Aside0 (Kd.R k62 62 w' w.heap.size (fun _ => True) (.slice (some ad289) t286.length co22) t286) ∧ Aside0 (Below w.heap.size w w'))
              case atStart => exact ⟨((rd_T62 t286 x8_2).f1), (by first | rfl | (simp; done) | (simp [*]; done)), H', ⟨Nat.le_refl _⟩, ⟨by (with_reducible repeat (first | apply Kd.R_alloc | apply Kd.R_drewN | apply Kd.R_drew)); exact HO_7.out⟩, ⟨by repeat (first | (with_reducible first | exact HB.out | apply below_alloc | apply pw_below_drewN | apply below_drew1) | exact HB.out)⟩⟩
              case round =>
               clear H'
               try clear c1
               try clear c2
               try clear p2
               try clear q2
               try clear hx2
               try clear c3
               try clear p3
               try clear q3
               try clear hx3
               try clear c4
               try clear c5
               try clear c6
               try clear p6
               try clear c7
               try clear c7b0
               try clear c8
               try clear c11
               try clear c11b0
               try clear c11b1
               try clear c19
               try clear c20
               try clear c20b0
               try clear c21
               try clear c21b0
               try clear c22
               try clear c23
               try clear c23b0
               try clear c24
               try clear c24b0
               try clear c25
               try clear c25b0
               try clear c26
               try clear c27
               try clear p28
               try clear q28
               try clear hx28
               try clear p29
               try clear q29
               try clear hx29
               try clear p30
               try clear q30
               try clear hx30
               try clear c34
               try clear c34b0
               try clear c34b1
               try clear c36
               try clear c37
               try clear c37b0
               try clear c40
               try clear c40b0
               try clear c40b1
               try clear c41
               try clear c41b0
               try clear c41b1
               try clear c54
               try clear c54b0
               try clear c54b1
               try clear c56
               try clear c56b0
               try clear c56b1
               try clear c57
               try clear c57b0
               try clear c57b1
               try clear c58
               try clear c58b0
               try clear c61
               try clear c61b0
               try clear hcz33_0
               try clear hcz33_1
               try clear hcz33_2
               try clear hcz35_0
               try clear hcz35_1
               try clear hcz35_2
               try clear hcz42_0
               try clear hcz42_1
               try clear hcz42_2
               try clear hcz46_0
               try clear hcz46_1
               try clear hcz46_2
               try clear hcz50_0
               try clear hcz50_1
               try clear hcz50_2
               try clear hcz55_0
               try clear hcz55_1
               try clear hcz55_2
               try clear hcz59_0
               try clear hcz59_1
               try clear hcz59_2
               try clear hcz60_0
               try clear hcz60_1
               try clear hcz60_2
               try clear hcz62_0
               try clear hcz62_1
               try clear hcz62_2
               try clear hcz63_0
               try clear hcz63_1
               try clear hcz63_2
               try clear hfz33_0
               try clear hfz33_1
               try clear hfz33_2
               try clear hfz35_0
               try clear hfz35_1
               try clear hfz35_2
               try clear hfz42_0
               try clear hfz42_1
               try clear hfz42_2
               try clear hfz46_0
               try clear hfz46_1
               try clear hfz46_2
               try clear hfz50_0
               try clear hfz50_1
               try clear hfz50_2
               try clear hfz55_0
               try clear hfz55_1
               try clear hfz55_2
               try clear hfz59_0
               try clear hfz59_1
               try clear hfz59_2
               try clear hfz60_0
               try clear hfz60_1
               try clear hfz60_2
               try clear hfz62_0
               try clear hfz62_1
               try clear hfz62_2
               try clear hfz63_0
               try clear hfz63_1
               try clear hfz63_2
               try clear hx289_0
               try clear hx289_1
               try clear hx289_2
               try clear hx290_0
               try clear hx290_1
               try clear hx290_2
               try clear hx304_0
               try clear hx304_1
               try clear hx304_2
               try clear p2
               try clear p28
               try clear p289
               try clear p29
               try clear p290
               try clear p304
               try clear p6
               try clear q2
               try clear q28
               try clear q289
               try clear q29
               try clear q290
               try clear q304
               obtain ⟨x17_4, rfl, HA, HK4, HO_7, HB⟩ := hrel
               cases gk with
               | zero => exact absurd HA.out (by simp [galleylaw22_WordsTabs.l4])
               | succ k4 =>
                have H := HA.out
                clear HA
                simp only [galleylaw22_WordsTabs.l4] at H
                by_cases c64 : 0 ≤ x8_2
                ·rw [if_pos c64] at H
                 have c64b0 : decide (0 ≤ x8_2) = true := decide_eq_true c64
                 clear c64
                 by_cases c65 : x8_2 < (t286.length : Int)
                 ·rw [if_pos c65] at H
                  have c65b0 : decide (x8_2 < (t286.length : Int)) = true := decide_eq_true c65
                  clear c65
                  replace H := Option.bind_eq_some_iff.mp H
                  obtain ⟨t306, A660, H⟩ := H
                  replace H : (if x17_4 ≤ t306 then ((galleylaw22_own.f l0).bind fun t307 => ((words_Column.f t307 x17_4 a1).bind fun bt310 => (if bt310.2 = 0 then (if bt310.1 = x9_3 then (galleylaw22_WordsTabs.l4 k4 l0 a1 t286 x8_2 x9_3 (wrap64 (x17_4 + 1))) else (some false)) else (some false)))) else (galleylaw22_WordsTabs.l0 k4 l0 a1 t286 (wrap64 (x8_2 + 1)))) = some r := H
                  have A66 := Aside0.mk A660
                  clear A660
                  by_cases c67 : x17_4 ≤ t306
                  ·rw [if_pos c67] at H
                   have c67b0 : decide (x17_4 ≤ t306) = true := decide_eq_true c67
                   clear c67
                   replace H := Option.bind_eq_some_iff.mp H
                   obtain ⟨t307, A680, H⟩ := H
                   replace H : ((words_Column.f t307 x17_4 a1).bind fun bt310 => (if bt310.2 = 0 then (if bt310.1 = x9_3 then (galleylaw22_WordsTabs.l4 k4 l0 a1 t286 x8_2 x9_3 (wrap64 (x17_4 + 1))) else (some false)) else (some false))) = some r := H
                   have A68 := Aside0.mk A680
                   clear A680
                   replace H := Option.bind_eq_some_iff.mp H
                   obtain ⟨⟨t310, t311⟩, A690, H⟩ := H
                   replace H : (if t311 = 0 then (if t310 = x9_3 then (galleylaw22_WordsTabs.l4 k4 l0 a1 t286 x8_2 x9_3 (wrap64 (x17_4 + 1))) else (some false)) else (some false)) = some r := H
                   have A69 := Aside0.mk A690
                   clear A690
                   by_cases c70 : t311 = 0
                   ·rw [if_pos c70] at H
                    have c70b0 : (t311 == 0) = true := beq_iff_eq.mpr c70
                    have c70b1 : (t311 != 0) = false := bne_eq_false_iff_eq.mpr c70
                    clear c70
                    by_cases c71 : t310 = x9_3
                    ·rw [if_pos c71] at H
                     have c71b0 : (t310 == x9_3) = true := beq_iff_eq.mpr c71
                     have c71b1 : (t310 != x9_3) = false := bne_eq_false_iff_eq.mpr c71
                     clear c71
                     have H' := Aside0.mk H
                     clear H
                     have p305 : 0 ≤ (x8_2 : Int) := of_decide_eq_true (by first | (with_reducible assumption) | assumption)
                     have q305 : x8_2 < (t286.length : Int) := of_decide_eq_true (by first | (with_reducible assumption) | assumption)
                     obtain ⟨ad305, e305, hx305_0, hx305_1, hx305_2⟩ := at_T62 (Kd.R_reads' HO_7.out).2.2 x8_2 p305 q305
                     obtain rfl : ad289 = ad305 := (by injection e305)
                     replace p305 := eq_true p305
                     replace q305 := eq_true q305
                     go_wp2_with (first | ((with_reducible refine gate_callee (f := 28) rfl ?_); refine goesL_ (some 128) rfl rfl Tryd.func28 (by kernel_rfl) rfl #[.agg #[.int .i64 ((rd_T62 t286 x8_2).f0), .int .i64 ((rd_T62 t286 x8_2).f1), .int .i64 ((rd_T62 t286 x8_2).f2)]] rfl (by (try simp only [List.map_toArray, List.map_cons, List.map_nil]); first | done | rfl | (simp only [List.length_drop, List.length_take]; rfl)) ?_; (with_reducible refine (galleyref07_Last.calls ((rd_T62 t286 x8_2).f0) ((rd_T62 t286 x8_2).f1) ((rd_T62 t286 x8_2).f2) t306 _ A66.out).mono ?_); rintro e w72 ⟨rfl, hb⟩; refine ⟨_, rfl, ?_⟩; have n0_ := Aside0.mk (Kd.R_below (by (with_reducible repeat (first | apply Kd.R_alloc | apply Kd.R_drewN | apply Kd.R_drew)); exact HO_7.out) hb); have n1_ := Aside0.mk (below_step (by repeat (first | (with_reducible first | exact HB.out | apply below_alloc | apply pw_below_drewN | apply below_drew1) | exact HB.out)) hb); clear HO_7; clear HB; have HO_7 := n0_; have HB := n1_; clear n0_ n1_; (try clear hb); (try clear hb2); (try clear hk); (try clear hi)) | ((with_reducible refine gate_callee (f := 21) rfl ?_); refine goesL_ (some 134) rfl rfl Tryd.func21 (by kernel_rfl) rfl #[.slice A0 l0.length c0] rfl (by (try simp only [List.map_toArray, List.map_cons, List.map_nil]); first | done | rfl | (simp only [List.length_drop, List.length_take]; rfl)) ?_; (with_reducible refine (galleylaw22_own.calls _ _ l0 t307 _ ?side1 ?side2 A68.out).mono ?_); (case side1 => repeat (first | exact (Kd.C_below HR0.out HB.out) | (with_reducible refine Kd.C_alloc ?_ _) | (with_reducible refine Kd.C_drewN ?_ _) | (with_reducible refine Kd.C_drew ?_))); (case side2 => exact HC0.out); rintro e w73 ⟨v308, rfl, ho0, hb⟩; refine ⟨_, rfl, ?_⟩; have n0_ := Aside0.mk (Kd.R_below (by (with_reducible repeat (first | apply Kd.R_alloc | apply Kd.R_drewN | apply Kd.R_drew)); exact HO_7.out) hb); have n1_ := Aside0.mk (Kd.R_lower ho0 (below_size (by repeat (first | (with_reducible first | exact HB.out | apply below_alloc | apply pw_below_drewN | apply below_drew1) | exact HB.out)))); have n2_ := Aside0.mk (below_step (by repeat (first | (with_reducible first | exact HB.out | apply below_alloc | apply pw_below_drewN | apply below_drew1) | exact HB.out)) hb); clear HO_7; clear HB; have HO_7 := n0_; have HO309 := n1_; have HB := n2_; clear n0_ n1_ n2_; (try clear hb); (try clear hb2); (try clear hk); (try clear hi); (try clear ho0); obtain ⟨Ao74, co74, eo74⟩ := Kd.R_slice HO309.out; subst eo74) | ((with_reducible refine gate_callee (f := 26) rfl ?_); refine goesL_ (some 137) rfl rfl Tryd.func26 (by kernel_rfl) rfl #[.slice Ao74 t307.length co74, .int .i64 x17_4, .int .i64 a1] rfl (by (try simp only [List.map_toArray, List.map_cons, List.map_nil]); first | done | rfl | (simp only [List.length_drop, List.length_take]; rfl)) ?_; (with_reducible refine (words_Column.calls _ _ t307 x17_4 a1 t310 t311 _ ?side1 ?side2 ?side3 A69.out).mono ?_); (case side1 => repeat (first | exact (Kd.R_reads' HO309.out).2.2 | (with_reducible refine Kd.C_alloc ?_ _) | (with_reducible refine Kd.C_drewN ?_ _) | (with_reducible refine Kd.C_drew ?_))); (case side2 => exact (Kd.R_reads' HO309.out).2.1); (case side3 => exact laid_below HLB.out (by repeat (first | (with_reducible first | exact HB.out | apply below_alloc | apply pw_below_drewN | apply below_drew1) | exact HB.out))); rintro e w75 ⟨rfl, hb⟩; refine ⟨_, rfl, ?_⟩; have n0_ := Aside0.mk (Kd.R_below (by (with_reducible repeat (first | apply Kd.R_alloc | apply Kd.R_drewN | apply Kd.R_drew)); exact HO_7.out) hb); have n1_ := Aside0.mk (Kd.R_below (by (with_reducible repeat (first | apply Kd.R_alloc | apply Kd.R_drewN | apply Kd.R_drew)); exact HO309.out) hb); have n2_ := Aside0.mk (below_step (by repeat (first | (with_reducible first | exact HB.out | apply below_alloc | apply pw_below_drewN | apply below_drew1) | exact HB.out)) hb); clear HO_7; clear HO309; clear HB; have HO_7 := n0_; have HO309 := n1_; have HB := n2_; clear n0_ n1_ n2_; (try clear hb); (try clear hb2); (try clear hk); (try clear hi)))
                     go_roundg k4
                     case measure => have := HJ4.out; have := HK2.out; have := HK3.out; have := HK4.out; omega
                     case rel => exact ⟨(wrap64 (x17_4 + 1)), (by first | rfl | (simp; done) | (simp [*]; done)), H', ⟨by have := HJ4.out; have := HK2.out; have := HK3.out; have := HK4.out; omega⟩, ⟨by (with_reducible repeat (first | apply Kd.R_alloc | apply Kd.R_drewN | apply Kd.R_drew)); exact HO_7.out⟩, ⟨by repeat (first | (with_reducible first | exact HB.out | apply below_alloc | apply pw_below_drewN | apply below_drew1) | exact HB.out)⟩⟩
                    ·rw [if_neg c71] at H
                     have c71b0 : (t310 == x9_3) = false := beq_eq_false_iff_ne.mpr c71
                     have c71b1 : (t310 != x9_3) = true := bne_iff_ne.mpr c71
                     obtain rfl := Option.some.inj H
                     have p305 : 0 ≤ (x8_2 : Int) := of_decide_eq_true (by first | (with_reducible assumption) | assumption)
                     have q305 : x8_2 < (t286.length : Int) := of_decide_eq_true (by first | (with_reducible assumption) | assumption)
                     obtain ⟨ad305, e305, hx305_0, hx305_1, hx305_2⟩ := at_T62 (Kd.R_reads' HO_7.out).2.2 x8_2 p305 q305
                     obtain rfl : ad289 = ad305 := (by injection e305)
                     replace p305 := eq_true p305
                     replace q305 := eq_true q305
                     go_wp2_with (first | ((with_reducible refine gate_callee (f := 28) rfl ?_); refine goesL_ (some 128) rfl rfl Tryd.func28 (by kernel_rfl) rfl #[.agg #[.int .i64 ((rd_T62 t286 x8_2).f0), .int .i64 ((rd_T62 t286 x8_2).f1), .int .i64 ((rd_T62 t286 x8_2).f2)]] rfl (by (try simp only [List.map_toArray, List.map_cons, List.map_nil]); first | done | rfl | (simp only [List.length_drop, List.length_take]; rfl)) ?_; (with_reducible refine (galleyref07_Last.calls ((rd_T62 t286 x8_2).f0) ((rd_T62 t286 x8_2).f1) ((rd_T62 t286 x8_2).f2) t306 _ A66.out).mono ?_); rintro e w76 ⟨rfl, hb⟩; refine ⟨_, rfl, ?_⟩; have n0_ := Aside0.mk (Kd.R_below (by (with_reducible repeat (first | apply Kd.R_alloc | apply Kd.R_drewN | apply Kd.R_drew)); exact HO_7.out) hb); have n1_ := Aside0.mk (below_step (by repeat (first | (with_reducible first | exact HB.out | apply below_alloc | apply pw_below_drewN | apply below_drew1) | exact HB.out)) hb); clear HO_7; clear HB; have HO_7 := n0_; have HB := n1_; clear n0_ n1_; (try clear hb); (try clear hb2); (try clear hk); (try clear hi)) | ((with_reducible refine gate_callee (f := 21) rfl ?_); refine goesL_ (some 134) rfl rfl Tryd.func21 (by kernel_rfl) rfl #[.slice A0 l0.length c0] rfl (by (try simp only [List.map_toArray, List.map_cons, List.map_nil]); first | done | rfl | (simp only [List.length_drop, List.length_take]; rfl)) ?_; (with_reducible refine (galleylaw22_own.calls _ _ l0 t307 _ ?side1 ?side2 A68.out).mono ?_); (case side1 => repeat (first | exact (Kd.C_below HR0.out HB.out) | (with_reducible refine Kd.C_alloc ?_ _) | (with_reducible refine Kd.C_drewN ?_ _) | (with_reducible refine Kd.C_drew ?_))); (case side2 => exact HC0.out); rintro e w77 ⟨v308, rfl, ho0, hb⟩; refine ⟨_, rfl, ?_⟩; have n0_ := Aside0.mk (Kd.R_below (by (with_reducible repeat (first | apply Kd.R_alloc | apply Kd.R_drewN | apply Kd.R_drew)); exact HO_7.out) hb); have n1_ := Aside0.mk (Kd.R_lower ho0 (below_size (by repeat (first | (with_reducible first | exact HB.out | apply below_alloc | apply pw_below_drewN | apply below_drew1) | exact HB.out)))); have n2_ := Aside0.mk (below_step (by repeat (first | (with_reducible first | exact HB.out | apply below_alloc | apply pw_below_drewN | apply below_drew1) | exact HB.out)) hb); clear HO_7; clear HB; have HO_7 := n0_; have HO309 := n1_; have HB := n2_; clear n0_ n1_ n2_; (try clear hb); (try clear hb2); (try clear hk); (try clear hi); (try clear ho0); obtain ⟨Ao78, co78, eo78⟩ := Kd.R_slice HO309.out; subst eo78) | ((with_reducible refine gate_callee (f := 26) rfl ?_); refine goesL_ (some 137) rfl rfl Tryd.func26 (by kernel_rfl) rfl #[.slice Ao78 t307.length co78, .int .i64 x17_4, .int .i64 a1] rfl (by (try simp only [List.map_toArray, List.map_cons, List.map_nil]); first | done | rfl | (simp only [List.length_drop, List.length_take]; rfl)) ?_; (with_reducible refine (words_Column.calls _ _ t307 x17_4 a1 t310 t311 _ ?side1 ?side2 ?side3 A69.out).mono ?_); (case side1 => repeat (first | exact (Kd.R_reads' HO309.out).2.2 | (with_reducible refine Kd.C_alloc ?_ _) | (with_reducible refine Kd.C_drewN ?_ _) | (with_reducible refine Kd.C_drew ?_))); (case side2 => exact (Kd.R_reads' HO309.out).2.1); (case side3 => exact laid_below HLB.out (by repeat (first | (with_reducible first | exact HB.out | apply below_alloc | apply pw_below_drewN | apply below_drew1) | exact HB.out))); rintro e w79 ⟨rfl, hb⟩; refine ⟨_, rfl, ?_⟩; have n0_ := Aside0.mk (Kd.R_below (by (with_reducible repeat (first | apply Kd.R_alloc | apply Kd.R_drewN | apply Kd.R_drew)); exact HO_7.out) hb); have n1_ := Aside0.mk (Kd.R_below (by (with_reducible repeat (first | apply Kd.R_alloc | apply Kd.R_drewN | apply Kd.R_drew)); exact HO309.out) hb); have n2_ := Aside0.mk (below_step (by repeat (first | (with_reducible first | exact HB.out | apply below_alloc | apply pw_below_drewN | apply below_drew1) | exact HB.out)) hb); clear HO_7; clear HO309; clear HB; have HO_7 := n0_; have HO309 := n1_; have HB := n2_; clear n0_ n1_ n2_; (try clear hb); (try clear hb2); (try clear hk); (try clear hi)))
                     go_ret
                     exact ⟨by first | rfl | (simp [errW_none, errW_some] <;> rfl) | (simp [*, errW_none, errW_some] <;> rfl), by repeat (first | (with_reducible first | exact HB.out | apply below_alloc | apply pw_below_drewN | apply below_drew1) | exact HB.out)⟩
                   ·rw [if_neg c70] at H
                    have c70b0 : (t311 == 0) = false := beq_eq_false_iff_ne.mpr c70
                    have c70b1 : (t311 != 0) = true := bne_iff_ne.mpr c70
                    obtain rfl := Option.some.inj H
                    have p305 : 0 ≤ (x8_2 : Int) := of_decide_eq_true (by first | (with_reducible assumption) | assumption)
                    have q305 : x8_2 < (t286.length : Int) := of_decide_eq_true (by first | (with_reducible assumption) | assumption)
                    obtain ⟨ad305, e305, hx305_0, hx305_1, hx305_2⟩ := at_T62 (Kd.R_reads' HO_7.out).2.2 x8_2 p305 q305
                    obtain rfl : ad289 = ad305 := (by injection e305)
                    replace p305 := eq_true p305
                    replace q305 := eq_true q305
                    go_wp2_with (first | ((with_reducible refine gate_callee (f := 28) rfl ?_); refine goesL_ (some 128) rfl rfl Tryd.func28 (by kernel_rfl) rfl #[.agg #[.int .i64 ((rd_T62 t286 x8_2).f0), .int .i64 ((rd_T62 t286 x8_2).f1), .int .i64 ((rd_T62 t286 x8_2).f2)]] rfl (by (try simp only [List.map_toArray, List.map_cons, List.map_nil]); first | done | rfl | (simp only [List.length_drop, List.length_take]; rfl)) ?_; (with_reducible refine (galleyref07_Last.calls ((rd_T62 t286 x8_2).f0) ((rd_T62 t286 x8_2).f1) ((rd_T62 t286 x8_2).f2) t306 _ A66.out).mono ?_); rintro e w80 ⟨rfl, hb⟩; refine ⟨_, rfl, ?_⟩; have n0_ := Aside0.mk (Kd.R_below (by (with_reducible repeat (first | apply Kd.R_alloc | apply Kd.R_drewN | apply Kd.R_drew)); exact HO_7.out) hb); have n1_ := Aside0.mk (below_step (by repeat (first | (with_reducible first | exact HB.out | apply below_alloc | apply pw_below_drewN | apply below_drew1) | exact HB.out)) hb); clear HO_7; clear HB; have HO_7 := n0_; have HB := n1_; clear n0_ n1_; (try clear hb); (try clear hb2); (try clear hk); (try clear hi)) | ((with_reducible refine gate_callee (f := 21) rfl ?_); refine goesL_ (some 134) rfl rfl Tryd.func21 (by kernel_rfl) rfl #[.slice A0 l0.length c0] rfl (by (try simp only [List.map_toArray, List.map_cons, List.map_nil]); first | done | rfl | (simp only [List.length_drop, List.length_take]; rfl)) ?_; (with_reducible refine (galleylaw22_own.calls _ _ l0 t307 _ ?side1 ?side2 A68.out).mono ?_); (case side1 => repeat (first | exact (Kd.C_below HR0.out HB.out) | (with_reducible refine Kd.C_alloc ?_ _) | (with_reducible refine Kd.C_drewN ?_ _) | (with_reducible refine Kd.C_drew ?_))); (case side2 => exact HC0.out); rintro e w81 ⟨v308, rfl, ho0, hb⟩; refine ⟨_, rfl, ?_⟩; have n0_ := Aside0.mk (Kd.R_below (by (with_reducible repeat (first | apply Kd.R_alloc | apply Kd.R_drewN | apply Kd.R_drew)); exact HO_7.out) hb); have n1_ := Aside0.mk (Kd.R_lower ho0 (below_size (by repeat (first | (with_reducible first | exact HB.out | apply below_alloc | apply pw_below_drewN | apply below_drew1) | exact HB.out)))); have n2_ := Aside0.mk (below_step (by repeat (first | (with_reducible first | exact HB.out | apply below_alloc | apply pw_below_drewN | apply below_drew1) | exact HB.out)) hb); clear HO_7; clear HB; have HO_7 := n0_; have HO309 := n1_; have HB := n2_; clear n0_ n1_ n2_; (try clear hb); (try clear hb2); (try clear hk); (try clear hi); (try clear ho0); obtain ⟨Ao82, co82, eo82⟩ := Kd.R_slice HO309.out; subst eo82) | ((with_reducible refine gate_callee (f := 26) rfl ?_); refine goesL_ (some 137) rfl rfl Tryd.func26 (by kernel_rfl) rfl #[.slice Ao82 t307.length co82, .int .i64 x17_4, .int .i64 a1] rfl (by (try simp only [List.map_toArray, List.map_cons, List.map_nil]); first | done | rfl | (simp only [List.length_drop, List.length_take]; rfl)) ?_; (with_reducible refine (words_Column.calls _ _ t307 x17_4 a1 t310 t311 _ ?side1 ?side2 ?side3 A69.out).mono ?_); (case side1 => repeat (first | exact (Kd.R_reads' HO309.out).2.2 | (with_reducible refine Kd.C_alloc ?_ _) | (with_reducible refine Kd.C_drewN ?_ _) | (with_reducible refine Kd.C_drew ?_))); (case side2 => exact (Kd.R_reads' HO309.out).2.1); (case side3 => exact laid_below HLB.out (by repeat (first | (with_reducible first | exact HB.out | apply below_alloc | apply pw_below_drewN | apply below_drew1) | exact HB.out))); rintro e w83 ⟨rfl, hb⟩; refine ⟨_, rfl, ?_⟩; have n0_ := Aside0.mk (Kd.R_below (by (with_reducible repeat (first | apply Kd.R_alloc | apply Kd.R_drewN | apply Kd.R_drew)); exact HO_7.out) hb); have n1_ := Aside0.mk (Kd.R_below (by (with_reducible repeat (first | apply Kd.R_alloc | apply Kd.R_drewN | apply Kd.R_drew)); exact HO309.out) hb); have n2_ := Aside0.mk (below_step (by repeat (first | (with_reducible first | exact HB.out | apply below_alloc | apply pw_below_drewN | apply below_drew1) | exact HB.out)) hb); clear HO_7; clear HO309; clear HB; have HO_7 := n0_; have HO309 := n1_; have HB := n2_; clear n0_ n1_ n2_; (try clear hb); (try clear hb2); (try clear hk); (try clear hi)))
                    go_ret
                    exact ⟨by first | rfl | (simp [errW_none, errW_some] <;> rfl) | (simp [*, errW_none, errW_some] <;> rfl), by repeat (first | (with_reducible first | exact HB.out | apply below_alloc | apply pw_below_drewN | apply below_drew1) | exact HB.out)⟩
                  ·rw [if_neg c67] at H
                   have c67b0 : decide (x17_4 ≤ t306) = false := decide_eq_false c67
                   clear c67
                   have H' := Aside0.mk H
                   clear H
                   have p305 : 0 ≤ (x8_2 : Int) := of_decide_eq_true (by first | (with_reducible assumption) | assumption)
                   have q305 : x8_2 < (t286.length : Int) := of_decide_eq_true (by first | (with_reducible assumption) | assumption)
                   obtain ⟨ad305, e305, hx305_0, hx305_1, hx305_2⟩ := at_T62 (Kd.R_reads' HO_7.out).2.2 x8_2 p305 q305
                   obtain rfl : ad289 = ad305 := (by injection e305)
                   replace p305 := eq_true p305
                   replace q305 := eq_true q305
                   go_wp2_with (first | ((with_reducible refine gate_callee (f := 28) rfl ?_); refine goesL_ (some 128) rfl rfl Tryd.func28 (by kernel_rfl) rfl #[.agg #[.int .i64 ((rd_T62 t286 x8_2).f0), .int .i64 ((rd_T62 t286 x8_2).f1), .int .i64 ((rd_T62 t286 x8_2).f2)]] rfl (by (try simp only [List.map_toArray, List.map_cons, List.map_nil]); first | done | rfl | (simp only [List.length_drop, List.length_take]; rfl)) ?_; (with_reducible refine (galleyref07_Last.calls ((rd_T62 t286 x8_2).f0) ((rd_T62 t286 x8_2).f1) ((rd_T62 t286 x8_2).f2) t306 _ A66.out).mono ?_); rintro e w84 ⟨rfl, hb⟩; refine ⟨_, rfl, ?_⟩; have n0_ := Aside0.mk (Kd.R_below (by (with_reducible repeat (first | apply Kd.R_alloc | apply Kd.R_drewN | apply Kd.R_drew)); exact HO_7.out) hb); have n1_ := Aside0.mk (below_step (by repeat (first | (with_reducible first | exact HB.out | apply below_alloc | apply pw_below_drewN | apply below_drew1) | exact HB.out)) hb); clear HO_7; clear HB; have HO_7 := n0_; have HB := n1_; clear n0_ n1_; (try clear hb); (try clear hb2); (try clear hk); (try clear hi)))
                   go_roundg k4
                   case measure => have := HJ4.out; have := HK2.out; have := HK3.out; have := HK4.out; omega
                   case rel => exact ⟨(wrap64 (x8_2 + 1)), (by first | rfl | (simp; done) | (simp [*]; done)), H', ⟨by have := HJ4.out; have := HK2.out; have := HK3.out; have := HK4.out; omega⟩, ⟨by (with_reducible repeat (first | apply Kd.R_alloc | apply Kd.R_drewN | apply Kd.R_drew)); exact HO_7.out⟩, ⟨by repeat (first | (with_reducible first | exact HB.out | apply below_alloc | apply pw_below_drewN | apply below_drew1) | exact HB.out)⟩⟩
                 ·rw [if_neg c65] at H
                  exact absurd H (by simp)
                ·rw [if_neg c64] at H
                 exact absurd H (by simp)
            ·rw [if_neg c24] at H
             exact absurd H (by simp)
           ·rw [if_neg c23] at H
            exact absurd H (by simp)
        ·rw [if_neg c21] at H
         exact absurd H (by simp)
       ·rw [if_neg c20] at H
        have c20b0 : decide (x8_2 < (t286.length : Int)) = false := decide_eq_false c20
        clear c20
        obtain rfl := Option.some.inj H
        obtain ⟨Ao85, co85, eo85⟩ := Kd.R_slice HO_7.out
        subst eo85
        go_wp2
        go_ret
        exact ⟨by first | rfl | (simp [errW_none, errW_some] <;> rfl) | (simp [*, errW_none, errW_some] <;> rfl), by repeat (first | (with_reducible first | exact HB.out | apply below_alloc | apply pw_below_drewN | apply below_drew1) | exact HB.out)⟩
 ·replace c4 := Bool.eq_false_iff.mpr c4
  subst c4
  have H1 : (some false) = some r := by rw [if_neg (show ¬ (false = true) by decide)] at H; exact H
  clear H
  have H := H1
  clear H1
  obtain rfl := Option.some.inj H
  go_enter Tryd.func6, Tryd.ntmps6
  go_wp2_with (first | ((with_reducible refine gate_callee (f := 19) rfl ?_); refine goesL_ (some 20) rfl rfl Tryd.func19 (by kernel_rfl) rfl #[] rfl (by (try simp only [List.map_toArray, List.map_cons, List.map_nil]); first | done | rfl | (simp only [List.length_drop, List.length_take]; rfl)) ?_; (with_reducible refine (galleylaw22_wakes.calls  false _ ?side1 A3.out).mono ?_); (case side1 => exact laid_below HLB.out (by repeat (first | (with_reducible first | exact HB.out | apply below_alloc | apply pw_below_drewN | apply below_drew1) | exact HB.out))); rintro e w86 ⟨rfl, hb⟩; refine ⟨_, rfl, ?_⟩; have n0_ := Aside0.mk (below_step (by repeat (first | (with_reducible first | exact HB.out | apply below_alloc | apply pw_below_drewN | apply below_drew1) | exact HB.out)) hb); clear HB; have HB := n0_; clear n0_; (try clear hb); (try clear hb2); (try clear hk); (try clear hi)))
  go_ret
  exact ⟨by first | rfl | (simp [errW_none, errW_some] <;> rfl) | (simp [*, errW_none, errW_some] <;> rfl), by repeat (first | (with_reducible first | exact HB.out | apply below_alloc | apply pw_below_drewN | apply below_drew1) | exact HB.out)⟩

end Go.Proofs.YtijbkiajhicooabDoor.PW

namespace Go.Proofs.YtijbkiajhicooabDoor.PW
open Go.RowKit Go.Proofs.YtijbkiajhicooabDoorW.PrintWords Go.Proofs.YtijbkiajhicooabDoorW.PrintLast Go.Proofs.YtijbkiajhicooabDoorW.PrintMore
attribute [local go_sem] max2_int min2_int max_two min_two max_three min_three max_four min_four   -- for this text's walks alone
set_option linter.unusedVariables false
set_option linter.unusedSimpArgs false

def inB (a lo hi : Int) : Bool := decide (lo ≤ a) && decide (a ≤ hi)
def atI (l : List Int) (p : Int) : Int := if p < 0 ∨ p ≥ (l.length : Int) then -1 else wrap64 (rd l p)
def three (x y : Int) : Bool := (x == 224 && inB y 160 191) || (inB x 225 236 && inB y 128 191) || (x == 237 && inB y 128 159) || (inB x 238 239 && inB y 128 191)
def four (x y : Int) : Bool := (x == 240 && inB y 144 191) || (inB x 241 243 && inB y 128 191) || (x == 244 && inB y 128 143)
def longOf (x y z w : Int) : Int :=
 if inB x 0 127 then 1 else if inB x 194 223 && inB y 128 191 then 2 else if inB z 128 191 && three x y then 3 else if inB z 128 191 && inB w 128 191 && four x y then 4 else 0
def longAt (l : List Int) (p : Int) : Int := longOf (atI l p) (atI l (wrap64 (p + 1))) (atI l (wrap64 (p + 2))) (atI l (wrap64 (p + 3)))
end Go.Proofs.YtijbkiajhicooabDoor.PW

