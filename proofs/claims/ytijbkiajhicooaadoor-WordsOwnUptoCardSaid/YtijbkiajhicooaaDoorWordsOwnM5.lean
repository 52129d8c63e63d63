-- Written by merge.py, a program of this session's: PWx31 PWx32 PWx33 PWx36 PWx34 PWx37 PWx38 PWx39 PWx40 PWx41 PWx42 PWx43
import Derived.Test.YtijbkiajhicooaaDoorWordsOwnM2
import Derived.Test.YtijbkiajhicooaaDoorWordsOwnM4
import Derived.Lib.SlBytesConst
import Derived.Test.YtijbkiajhicooaaDoorWordsOwnM3
namespace Go.Proofs.YtijbkiajhicooaaDoor.PW
open Go.RowKit Go.Proofs.YtijbkiajhicooaaDoorW.PrintWords Go.Proofs.YtijbkiajhicooaaDoorW.PrintLast Go.Proofs.YtijbkiajhicooaaDoorW.PrintMore
attribute [local go_sem] max2_int min2_int max_two min_two max_three min_three max_four min_four   -- for this text's walks alone
set_option linter.unusedVariables false
set_option linter.unusedSimpArgs false

mutual
def words_Wrap.j0 : Nat → List Int → Int → Bool → Option (List Int × Int)
 | 0, _, _, _ => none
 | k + 1, x0, x1, x17 => if x17 = true then (some (([] : List Int), 2)) else ((lines_Count.f x0).bind fun t171 => (words_Wrap.l0 k x0 x1 ([] : List Int) t171 0))
def words_Wrap.l0 : Nat → List Int → Int → List Int → Int → Int → Option (List Int × Int)
 | 0, _, _, _, _, _ => none
 | k + 1, x0, x1, x6, x19, x20 => if x20 < x19 then ((lines_Line.f x0 x20).bind fun bt172 => (if 0 ≤ bt172.1 then (if bt172.1 ≤ bt172.2.1 then (if bt172.2.1 ≤ (x0.length : Int) then ((words_wrapped.f ((x0.take (bt172.2.1 : Int).toNat).drop (bt172.1 : Int).toNat) bt172.1 x1).bind fun t177 => (if x6.length + t177.length < 17592186044416 then (words_Wrap.l0 k x0 x1 (x6 ++ t177) x19 (wrap64 (x20 + 1))) else (none))) else (none)) else (none)) else (none))) else (some (x6, 0))
end
def words_Wrap.f (k : Nat) (l0 : List Int) (a1 : Int) : Option (List Int × Int) := if a1 < 1 then (words_Wrap.j0 k l0 a1 true) else (words_Wrap.j0 k l0 a1 (decide (a1 > 65536)))
set_option maxHeartbeats 8000000 in
set_option maxRecDepth 100000 in
theorem words_Wrap.calls (k : Nat) (A0 : Option Addr) (c0 : Nat) (l0 : List Int) (a1 : Int) (r1 : List Int) (r2 : Int) (w : World) (hr0 : Kd.C (Kd.int .u8) w A0 l0.length l0) (hc0 : l0.length ≤ c0) (hL : LaidBad w) (h : words_Wrap.f k l0 a1 = some (r1, r2)) :
  Calls Tryd.prog 36 #[.slice A0 l0.length c0, .int .i64 a1] w fun e w' => ∃ v0_ : Value, e = .returned (.tuple #[v0_, .int .i64 r2]) ∧ Kd.R (Kd.int .i64) 3 w' w.heap.size (fun _ => True) v0_ r1 ∧ Below w.heap.size w w' := by
 have HR0 := Aside0.mk hr0
 have HC0 := Aside0.mk hc0
 clear hr0 hc0
 have HB := Aside0.mk (Below.refl w.heap.size w)
 have HLB := Aside0.mk hL
 clear hL
 have H : (if a1 < 1 then (words_Wrap.j0 k l0 a1 true) else (words_Wrap.j0 k l0 a1 (decide (a1 > 65536)))) = some (r1, r2) := h
 clear h
 have HC3 := Aside0.mk H
 clear H
 go_enter Tryd.func36, Tryd.ntmps36
 go_upto_region 1 with (fail)
 go_cut [17] (fun v17 wc => ∃ (kq : Nat) (x17_2 : Bool), v17 = .bool x17_2 ∧ Aside0 (words_Wrap.j0 kq l0 a1 x17_2 = some (r1, r2)) ∧ Aside0 (kq ≤ k) ∧ Aside0 (Below w.heap.size w wc))
 case first =>
  have H := HC3.out
  clear HC3
  by_cases c4 : a1 < 1
  ·rw [if_pos c4] at H
   have c4b0 : decide (a1 < 1) = true := decide_eq_true c4
   clear c4
   (first | rw [c4b0] | (simp only [i64_w, i32_w]; rw [c4b0]) | skip)
   have H' := Aside0.mk H
   clear H
   go_wp2
   go_meet
   case rel => exact ⟨_, (true), (by first | rfl | (simp; done) | (simp [*]; done)), H', ⟨by first | omega | exact Nat.le_refl _⟩, ⟨by repeat (first | (with_reducible first | exact HB.out | apply below_alloc | apply pw_below_drewN | apply below_drew1) | exact HB.out)⟩⟩
  ·rw [if_neg c4] at H
   have c4b0 : decide (a1 < 1) = false := decide_eq_false c4
   clear c4
   (first | rw [c4b0] | (simp only [i64_w, i32_w]; rw [c4b0]) | skip)
   have H' := Aside0.mk H
   clear H
   go_wp2
   go_meet
   case rel => exact ⟨_, (decide (a1 > 65536)), (by first | rfl | (simp; done) | (simp [*]; done)), H', ⟨by first | omega | exact Nat.le_refl _⟩, ⟨by repeat (first | (with_reducible first | exact HB.out | apply below_alloc | apply pw_below_drewN | apply below_drew1) | exact HB.out)⟩⟩
 case rest =>
  clear HC3
  try clear p2
  try clear c3
  try clear c4
  try clear c4b0
  obtain ⟨kq, x17_2, rfl, HA, HJ2, HB⟩ := hcut
  cases kq with
  | zero => exact absurd HA.out (by simp [words_Wrap.j0])
  | succ kj2 =>
   have H := HA.out
   clear HA
   simp only [words_Wrap.j0] at H
   by_cases c5 : x17_2 = true
   ·subst c5
    have H1 : (some (([] : List Int), 2)) = some (r1, r2) := by rw [if_pos rfl] at H; exact H
    clear H
    have H := H1
    clear H1
    simp only [Option.some.injEq, Prod.mk.injEq] at H
    obtain ⟨rfl, rfl⟩ := H
    go_wp2
    go_ret2
    exact ⟨_, by first | rfl | (simp [errW_none, errW_some] <;> rfl) | (simp [*, errW_none, errW_some] <;> rfl), by first | exact Kd.R_nil _ _ _ _ _ | exact Kd.N_nil _ _ _ _ _ | exact Kd.V_nil _ _ _ _ _ | exact Kd.Q_nil _ _ _ _ _ | exact Kd.S_nil _ _ _ _ _, by repeat (first | (with_reducible first | exact HB.out | apply below_alloc | apply pw_below_drewN | apply below_drew1) | exact HB.out)⟩
   ·replace c5 := Bool.eq_false_iff.mpr c5
    subst c5
    have H1 : ((lines_Count.f l0).bind fun t171 => (words_Wrap.l0 kj2 l0 a1 ([] : List Int) t171 0)) = some (r1, r2) := by rw [if_neg (show ¬ (false = true) by decide)] at H; exact H
    clear H
    have H := H1
    clear H1
    replace H := Option.bind_eq_some_iff.mp H
    obtain ⟨t171, A60, H⟩ := H
    replace H : (words_Wrap.l0 kj2 l0 a1 ([] : List Int) t171 0) = some (r1, r2) := H
    have A6 := Aside0.mk A60
    clear A60
    have H' := Aside0.mk H
    clear H
    go_wp2_with (first | ((with_reducible refine gate_callee (f := 52) rfl ?_); refine goesL_ (some 19) rfl rfl Tryd.func52 (by kernel_rfl) rfl #[.slice A0 l0.length c0] rfl (by (try simp only [List.map_toArray, List.map_cons, List.map_nil]); first | done | rfl | (simp only [List.length_drop, List.length_take]; rfl)) ?_; (with_reducible refine (lines_Count.calls _ _ l0 t171 _ ?side1 ?side2 A6.out).mono ?_); (case side1 => repeat (first | exact (Kd.C_below HR0.out HB.out) | (with_reducible refine Kd.C_alloc ?_ _) | (with_reducible refine Kd.C_drewN ?_ _) | (with_reducible refine Kd.C_drew ?_))); (case side2 => exact HC0.out); rintro e w7 ⟨rfl, hb⟩; refine ⟨_, rfl, ?_⟩; have n0_ := Aside0.mk (below_step (by repeat (first | (with_reducible first | exact HB.out | apply below_alloc | apply pw_below_drewN | apply below_drew1) | exact HB.out)) hb); clear HB; have HB := n0_; clear n0_; (try clear hb); (try clear hb2); (try clear hk); (try clear hi)))
    go_loopg [6, 20] kj2 (fun kq v6 v20 w' => ∃ (x6_2 : List Int) (x20_2 : Int), v20 = .int .i64 x20_2 ∧ Aside0 (words_Wrap.l0 kq l0 a1 x6_2 t171 x20_2 = some (r1, r2)) ∧ Aside0 (kq ≤ kj2) ∧ Aside0 (Kd.R (Kd.int .i64) 3 w' w.heap.size (fun _ => True) v6 x6_2) ∧ Aside0 (Below w.heap.size w w'))
    case atStart => exact ⟨(([] : List Int)), (0), (by first | rfl | (simp; done) | (simp [*]; done)), H', ⟨Nat.le_refl _⟩, ⟨by first | exact Kd.R_nil _ _ _ _ _ | exact Kd.N_nil _ _ _ _ _ | exact Kd.V_nil _ _ _ _ _ | exact Kd.Q_nil _ _ _ _ _ | exact Kd.S_nil _ _ _ _ _⟩, ⟨by repeat (first | (with_reducible first | exact HB.out | apply below_alloc | apply pw_below_drewN | apply below_drew1) | exact HB.out)⟩⟩
    case round =>
     clear H'
     try clear p2
     try clear c3
     try clear c4
     try clear c4b0
     try clear c5
     try clear p2
     obtain ⟨x6_2, x20_2, rfl, HA, HK2, HO_6, HB⟩ := hrel
     cases gk with
     | zero => exact absurd HA.out (by simp [words_Wrap.l0])
     | succ k2 =>
      have H := HA.out
      clear HA
      simp only [words_Wrap.l0] at H
      by_cases c8 : x20_2 < t171
      ·rw [if_pos c8] at H
       have c8b0 : decide (x20_2 < t171) = true := decide_eq_true c8
       clear c8
       replace H := Option.bind_eq_some_iff.mp H
       obtain ⟨⟨t172, t173, t174, t175⟩, A90, H⟩ := H
       replace H : (if 0 ≤ t172 then (if t172 ≤ t173 then (if t173 ≤ (l0.length : Int) then ((words_wrapped.f ((l0.take (t173 : Int).toNat).drop (t172 : Int).toNat) t172 a1).bind fun t177 => (if x6_2.length + t177.length < 17592186044416 then (words_Wrap.l0 k2 l0 a1 (x6_2 ++ t177) t171 (wrap64 (x20_2 + 1))) else (none))) else (none)) else (none)) else (none)) = some (r1, r2) := H
       have A9 := Aside0.mk A90
       clear A90
       by_cases c10 : 0 ≤ t172
       ·rw [if_pos c10] at H
        have c10b0 := eq_true c10
        have c10b1 : decide (0 ≤ t172) = true := decide_eq_true c10
        clear c10
        by_cases c11 : t172 ≤ t173
        ·rw [if_pos c11] at H
         have c11b0 := eq_true c11
         have c11b1 : decide (t172 ≤ t173) = true := decide_eq_true c11
         clear c11
         by_cases c12 : t173 ≤ (l0.length : Int)
         ·rw [if_pos c12] at H
          have c12b0 := eq_true c12
          have c12b1 : decide (t173 ≤ (l0.length : Int)) = true := decide_eq_true c12
          clear c12
          replace H := Option.bind_eq_some_iff.mp H
          obtain ⟨t177, A130, H⟩ := H
          replace H : (if x6_2.length + t177.length < 17592186044416 then (words_Wrap.l0 k2 l0 a1 (x6_2 ++ t177) t171 (wrap64 (x20_2 + 1))) else (none)) = some (r1, r2) := H
          have A13 := Aside0.mk A130
          clear A130
          by_cases c14 : x6_2.length + t177.length < 17592186044416
          ·rw [if_pos c14] at H
           have LMc14 := Aside0.mk c14
           clear c14
           obtain ⟨y180, hy180⟩ : ∃ y_ : List Int, y_ = (x6_2 ++ t177) := ⟨_, rfl⟩
           replace H : (words_Wrap.l0 k2 l0 a1 y180 t171 (wrap64 (x20_2 + 1))) = some (r1, r2) := by first | (rw [hy180]; with_reducible exact H) | (have H2_ := (Option.bind_some _ _).symm.trans H; rw [hy180]; with_reducible exact H2_) | (have H2_ := (Option.bind_some _ _).symm.trans H; with_reducible exact H2_) | with_reducible exact H | (rw [hy180]; exact H) | exact H
           have Ny180 := Aside0.mk hy180
           clear hy180
           have H' := Aside0.mk H
           clear H
           go_wp2_with (first | ((with_reducible refine gate_callee (f := 46) rfl ?_); refine goesL_ (some 26) rfl rfl Tryd.func46 (by kernel_rfl) rfl #[.slice A0 l0.length c0, .int .i64 x20_2] rfl (by (try simp only [List.map_toArray, List.map_cons, List.map_nil]); first | done | rfl | (simp only [List.length_drop, List.length_take]; rfl)) ?_; (with_reducible refine (lines_Line.calls _ _ l0 x20_2 t172 t173 t174 t175 _ ?side1 ?side2 A9.out).mono ?_); (case side1 => repeat (first | exact (Kd.C_below HR0.out HB.out) | (with_reducible refine Kd.C_alloc ?_ _) | (with_reducible refine Kd.C_drewN ?_ _) | (with_reducible refine Kd.C_drew ?_))); (case side2 => exact HC0.out); rintro e w15 ⟨rfl, hb⟩; refine ⟨_, rfl, ?_⟩; have n0_ := Aside0.mk (Kd.R_below (by (with_reducible repeat (first | apply Kd.R_alloc | apply Kd.R_drewN | apply Kd.R_drew)); exact HO_6.out) hb); have n1_ := Aside0.mk (below_step (by repeat (first | (with_reducible first | exact HB.out | apply below_alloc | apply pw_below_drewN | apply below_drew1) | exact HB.out)) hb); clear HO_6; clear HB; have HO_6 := n0_; have HB := n1_; clear n0_ n1_; (try clear hb); (try clear hb2); (try clear hk); (try clear hi); obtain ⟨i016, hi016, _, hsz16, _⟩ := info_parts info5; obtain ⟨A16, hcut16, hA16, hC16⟩ := print_mid_of (P := Tryd.prog) (Value.int .u8) 0 29 5 .i64 .i64 Tryd.underlying29 hi016 hsz16 A0 c0 l0 t172 t173 (of_decide_eq_true (by first | (with_reducible assumption) | assumption)) (by first | omega | exact of_decide_eq_true (by first | (with_reducible assumption) | assumption)) (of_decide_eq_true (by first | (with_reducible assumption) | assumption)) HC0.out; have HR176 := Aside0.mk (Kd.C_of_reads (h1 := fun _ => rfl) (hA16 _ (Kd.reads_of_C HR0.out))); have HC176 := Aside0.mk hC16; clear hA16 hC16 hi016 hsz16) | ((with_reducible refine gate_callee (f := 66) rfl ?_); refine goesL_ (some 38) rfl rfl Tryd.func66 (by kernel_rfl) rfl #[.slice A16 ((l0.take (t173 : Int).toNat).drop (t172 : Int).toNat).length (c0 - t172.toNat), .int .i64 t172, .int .i64 a1] rfl (by (try simp only [List.map_toArray, List.map_cons, List.map_nil]); first | done | (rw [show ((l0.take (t173 : Int).toNat).drop (t172 : Int).toNat).length = (t173.toNat - t172.toNat) from (by rw [List.length_drop, List.length_take]; have h_ : (t173 : Int) ≤ (l0.length : Int) := of_decide_eq_true (by first | (with_reducible assumption) | assumption); omega)] <;> rfl) | rfl | (simp only [List.length_drop, List.length_take]; rfl)) ?_; (with_reducible refine (words_wrapped.calls _ _ ((l0.take (t173 : Int).toNat).drop (t172 : Int).toNat) t172 a1 t177 _ ?side1 ?side2 ?side3 A13.out).mono ?_); (case side1 => repeat (first | exact (Kd.C_below HR176.out HB.out) | (with_reducible refine Kd.C_alloc ?_ _) | (with_reducible refine Kd.C_drewN ?_ _) | (with_reducible refine Kd.C_drew ?_))); (case side2 => exact HC176.out); (case side3 => exact laid_below HLB.out (by repeat (first | (with_reducible first | exact HB.out | apply below_alloc | apply pw_below_drewN | apply below_drew1) | exact HB.out))); rintro e w17 ⟨v178, rfl, ho0, hb⟩; refine ⟨_, rfl, ?_⟩; have n0_ := Aside0.mk (Kd.R_elder' (by (with_reducible repeat (first | apply Kd.R_alloc | apply Kd.R_drewN | apply Kd.R_drew)); exact HO_6.out) (Kd.R_base ho0) hb); have n1_ := Aside0.mk (Kd.R_lower (Kd.R_new' ho0 (Kd.R_lt (by (with_reducible repeat (first | apply Kd.R_alloc | apply Kd.R_drewN | apply Kd.R_drew)); exact HO_6.out))) (below_size (by repeat (first | (with_reducible first | exact HB.out | apply below_alloc | apply pw_below_drewN | apply below_drew1) | exact HB.out)))); have n2_ := Aside0.mk (below_step (by repeat (first | (with_reducible first | exact HB.out | apply below_alloc | apply pw_below_drewN | apply below_drew1) | exact HB.out)) hb); clear HO_6; clear HB; have HO_6 := n0_; have HO179 := n1_; have HB := n2_; clear n0_ n1_ n2_; (try clear hb); (try clear hb2); (try clear hk); (try clear hi); (try clear ho0); obtain ⟨Ao19, co19, eo19⟩ := Kd.R_slice HO179.out; subst eo19) | ((with_reducible refine gate_builtin (b := .append) (xs := #[.tmp 31, .tmp 38]) rfl ?_); at_builtin; refine Kd.R_append_rows (Kd.int .i64) (w0 := w) w.heap.size rfl (.tmp 31) (.tmp 38) 69 3 (.int .i64 0) 8 rfl Tryd.underlying69 info3 rfl (by decide) (by omega) u6 x6_2 t177 _ _ _ (fun k_ => some k_ ≠ (.slice Ao19 t177.length co19 : Value).ownBlock) (fun _ => False) rfl rfl ?aO ?aR (fun _ _ h => h) (fun _ h => h.elim) ?aF ?aB ?aS ?aL ?_; (case aR => repeat (first | exact (Kd.R_reads' HO179.out).2.2 | (with_reducible refine Kd.C_alloc ?_ _) | (with_reducible refine Kd.C_drewN ?_ _) | (with_reducible refine Kd.C_drew ?_))); (case aB => exact (by repeat (first | (with_reducible first | exact HB.out | apply below_alloc | apply pw_below_drewN | apply below_drew1) | exact HB.out))); (case aF => exact (fun k_ hk => Kd.fresh' (Kd.R_lt (by (with_reducible repeat (first | apply Kd.R_alloc | apply Kd.R_drewN | apply Kd.R_drew)); exact HO179.out)) k_ hk)); (case aO => exact (by (with_reducible repeat (first | apply Kd.R_alloc | apply Kd.R_drewN | apply Kd.R_drew)); exact Kd.R_mono HO_6.out (fun _ hk => hk.2))); (case aS => exact (below_size (by repeat (first | (with_reducible first | exact HB.out | apply below_alloc | apply pw_below_drewN | apply below_drew1) | exact HB.out)))); (case aL => have := LMc14.out; omega); intro v181 w18 ho hb hg hat; rw [← Ny180.out] at ho; have n0_ := Aside0.mk (Kd.R_after (ok := (fun _ => True)) (by (with_reducible repeat (first | apply Kd.R_alloc | apply Kd.R_drewN | apply Kd.R_drew)); exact HO179.out) hg hat); have n1_ := Aside0.mk (hb); have n2_ := Aside0.mk (ho); clear HO179; clear HB; clear HO_6; have HO179 := n0_; have HB := n1_; have HO182 := n2_; clear n0_ n1_ n2_; clear ho hb hg hat))
           go_roundg k2
           case measure => have := HJ2.out; have := HK2.out; omega
           case rel => exact ⟨(y180), (wrap64 (x20_2 + 1)), (by first | rfl | (simp; done) | (simp [*]; done)), H', ⟨by have := HJ2.out; have := HK2.out; omega⟩, ⟨by (with_reducible repeat (first | apply Kd.R_alloc | apply Kd.R_drewN | apply Kd.R_drew)); exact Kd.R_mono HO182.out (fun _ hk => trivial)⟩, ⟨by repeat (first | (with_reducible first | exact HB.out | apply below_alloc | apply pw_below_drewN | apply below_drew1) | exact HB.out)⟩⟩
          ·rw [if_neg c14] at H
           exact absurd H (by simp)
         ·rw [if_neg c12] at H
          exact absurd H (by simp)
        ·rw [if_neg c11] at H
         exact absurd H (by simp)
       ·rw [if_neg c10] at H
        exact absurd H (by simp)
      ·rw [if_neg c8] at H
       have c8b0 : decide (x20_2 < t171) = false := decide_eq_false c8
       clear c8
       simp only [Option.some.injEq, Prod.mk.injEq] at H
       obtain ⟨rfl, rfl⟩ := H
       go_wp2
       go_ret2
       exact ⟨_, by first | rfl | (simp [errW_none, errW_some] <;> rfl) | (simp [*, errW_none, errW_some] <;> rfl), by (with_reducible repeat (first | apply Kd.R_alloc | apply Kd.R_drewN | apply Kd.R_drew)); exact HO_6.out, by repeat (first | (with_reducible first | exact HB.out | apply below_alloc | apply pw_below_drewN | apply below_drew1) | exact HB.out)⟩

end Go.Proofs.YtijbkiajhicooaaDoor.PW

namespace Go.Proofs.YtijbkiajhicooaaDoor.PW
open Go.RowKit Go.Proofs.YtijbkiajhicooaaDoorW.PrintWords Go.Proofs.YtijbkiajhicooaaDoorW.PrintLast Go.Proofs.YtijbkiajhicooaaDoorW.PrintMore
attribute [local go_sem] max2_int min2_int max_two min_two max_three min_three max_four min_four   -- for this text's walks alone
set_option linter.unusedVariables false
set_option linter.unusedSimpArgs false

def galleyref01_SameInts.l0 : Nat → List Int → List Int → Int → Option (Bool)
 | 0, _, _, _ => none
 | k + 1, x0, x1, x5 => if x5 < (x0.length : Int) then (if 0 ≤ x5 then (if x5 < (x1.length : Int) then (if (rd x0 x5) = (rd x1 x5) then (galleyref01_SameInts.l0 k x0 x1 (wrap64 (x5 + 1))) else (some false)) else (none)) else (none)) else (some true)
def galleyref01_SameInts.f (k : Nat) (l0 : List Int) (l1 : List Int) : Option (Bool) := if (l0.length : Int) = (l1.length : Int) then (galleyref01_SameInts.l0 k l0 l1 0) else (some false)
set_option maxHeartbeats 8000000 in
set_option maxRecDepth 100000 in
theorem galleyref01_SameInts.calls (k : Nat) (A0 : Option Addr) (c0 : Nat) (l0 : List Int) (A1 : Option Addr) (c1 : Nat) (l1 : List Int) (r : Bool) (w : World) (hr0 : Kd.C (Kd.int .i64) w A0 l0.length l0) (hc0 : l0.length ≤ c0) (hr1 : Kd.C (Kd.int .i64) w A1 l1.length l1) (hc1 : l1.length ≤ c1) (h : galleyref01_SameInts.f k l0 l1 = some r) :
  Calls Tryd.prog 38 #[.slice A0 l0.length c0, .slice A1 l1.length c1] w fun e w' => e = .returned (.bool r) ∧ Drawn0 w w' := by
 have HR0 := Aside0.mk hr0
 have HC0 := Aside0.mk hc0
 clear hr0 hc0
 have HR1 := Aside0.mk hr1
 have HC1 := Aside0.mk hc1
 clear hr1 hc1
 have H : (if (l0.length : Int) = (l1.length : Int) then (galleyref01_SameInts.l0 k l0 l1 0) else (some false)) = some r := h
 clear h
 by_cases c3 : (l0.length : Int) = (l1.length : Int)
 ·rw [if_pos c3] at H
  have c3b0 : ((l0.length : Int) == (l1.length : Int)) = true := beq_iff_eq.mpr c3
  have c3b1 : ((l0.length : Int) != (l1.length : Int)) = false := bne_eq_false_iff_eq.mpr c3
  have c3b2 : (l0.length == l1.length) = true := by first | simpa using c3 | (simp at c3 ⊢; omega)
  clear c3
  have H' := Aside0.mk H
  clear H
  go_enter Tryd.func38, Tryd.ntmps38
  go_wp2
  repeat (go_quiet (fail); try go_wp2)
  go_loopg [5] k (fun kq v5 w' => ∃ (x5_1 : Int), v5 = .int .i64 x5_1 ∧ Aside0 (galleyref01_SameInts.l0 kq l0 l1 x5_1 = some r) ∧ Aside0 (kq ≤ k) ∧ Drawn0 w w')
  case atStart => exact ⟨(0), (by first | rfl | (simp; done) | (simp [*]; done)), H', ⟨Nat.le_refl _⟩, by repeat (first | exact Drawn0.refl _ | apply Drawn0.step)⟩
  case round =>
   clear H'
   try clear c1
   try clear p2
   try clear c3
   try clear c3b0
   try clear c3b1
   try clear c3b2
   obtain ⟨x5_1, rfl, HA, HK1, ⟨m1, rfl⟩⟩ := hrel
   cases gk with
   | zero => exact absurd HA.out (by simp [galleyref01_SameInts.l0])
   | succ k1 =>
    have H := HA.out
    clear HA
    simp only [galleyref01_SameInts.l0] at H
    by_cases c4 : x5_1 < (l0.length : Int)
    ·rw [if_pos c4] at H
     have c4b0 : decide (x5_1 < (l0.length : Int)) = true := decide_eq_true c4
     clear c4
     by_cases c5 : 0 ≤ x5_1
     ·rw [if_pos c5] at H
      have c5b0 : decide (0 ≤ x5_1) = true := decide_eq_true c5
      clear c5
      by_cases c6 : x5_1 < (l1.length : Int)
      ·rw [if_pos c6] at H
       have c6b0 : decide (x5_1 < (l1.length : Int)) = true := decide_eq_true c6
       clear c6
       by_cases c7 : (rd l0 x5_1) = (rd l1 x5_1)
       ·rw [if_pos c7] at H
        have c7b0 : ((rd l0 x5_1) == (rd l1 x5_1)) = true := beq_iff_eq.mpr c7
        have c7b1 : ((rd l0 x5_1) != (rd l1 x5_1)) = false := bne_eq_false_iff_eq.mpr c7
        clear c7
        have H' := Aside0.mk H
        clear H
        have p183 : 0 ≤ (x5_1 : Int) := of_decide_eq_true (by first | (with_reducible assumption) | assumption)
        have q183 : x5_1 < (l0.length : Int) := of_decide_eq_true (by first | (with_reducible assumption) | assumption)
        obtain ⟨ad183, e183, hx183_0⟩ := Kd.at_int HR0.out x5_1 p183 q183
        cases e183
        replace p183 := eq_true p183
        replace q183 := eq_true q183
        have p184 : 0 ≤ (x5_1 : Int) := of_decide_eq_true (by first | (with_reducible assumption) | assumption)
        have q184 : x5_1 < (l1.length : Int) := of_decide_eq_true (by first | (with_reducible assumption) | assumption)
        obtain ⟨ad184, e184, hx184_0⟩ := Kd.at_int HR1.out x5_1 p184 q184
        cases e184
        replace p184 := eq_true p184
        replace q184 := eq_true q184
        go_wp2
        repeat (go_quiet (fail); try go_wp2)
        go_roundg k1
        case measure => have := HK1.out; omega
        case rel => exact ⟨(wrap64 (x5_1 + 1)), (by first | rfl | (simp; done) | (simp [*]; done)), H', ⟨by have := HK1.out; omega⟩, by repeat (first | exact Drawn0.refl _ | apply Drawn0.step)⟩
       ·rw [if_neg c7] at H
        have c7b0 : ((rd l0 x5_1) == (rd l1 x5_1)) = false := beq_eq_false_iff_ne.mpr c7
        have c7b1 : ((rd l0 x5_1) != (rd l1 x5_1)) = true := bne_iff_ne.mpr c7
        obtain rfl := Option.some.inj H
        have p183 : 0 ≤ (x5_1 : Int) := of_decide_eq_true (by first | (with_reducible assumption) | assumption)
        have q183 : x5_1 < (l0.length : Int) := of_decide_eq_true (by first | (with_reducible assumption) | assumption)
        obtain ⟨ad183, e183, hx183_0⟩ := Kd.at_int HR0.out x5_1 p183 q183
        cases e183
        replace p183 := eq_true p183
        replace q183 := eq_true q183
        have p184 : 0 ≤ (x5_1 : Int) := of_decide_eq_true (by first | (with_reducible assumption) | assumption)
        have q184 : x5_1 < (l1.length : Int) := of_decide_eq_true (by first | (with_reducible assumption) | assumption)
        obtain ⟨ad184, e184, hx184_0⟩ := Kd.at_int HR1.out x5_1 p184 q184
        cases e184
        replace p184 := eq_true p184
        replace q184 := eq_true q184
        go_wp2
        repeat (go_quiet (fail); try go_wp2)
        go_ret
        exact ⟨by first | rfl | (simp; done) | (simp [*]; done), by repeat (first | exact Drawn0.refl _ | apply Drawn0.step)⟩
      ·rw [if_neg c6] at H
       exact absurd H (by simp)
     ·rw [if_neg c5] at H
      exact absurd H (by simp)
    ·rw [if_neg c4] at H
     have c4b0 : decide (x5_1 < (l0.length : Int)) = false := decide_eq_false c4
     clear c4
     obtain rfl := Option.some.inj H
     go_wp2
     repeat (go_quiet (fail); try go_wp2)
     go_ret
     exact ⟨by first | rfl | (simp; done) | (simp [*]; done), by repeat (first | exact Drawn0.refl _ | apply Drawn0.step)⟩
 ·rw [if_neg c3] at H
  have c3b0 : ((l0.length : Int) == (l1.length : Int)) = false := beq_eq_false_iff_ne.mpr c3
  have c3b1 : ((l0.length : Int) != (l1.length : Int)) = true := bne_iff_ne.mpr c3
  have c3b2 : (l0.length == l1.length) = false := by first | simpa using c3 | (simp at c3 ⊢; omega)
  obtain rfl := Option.some.inj H
  go_enter Tryd.func38, Tryd.ntmps38
  go_wp2
  repeat (go_quiet (fail); try go_wp2)
  go_ret
  exact ⟨by first | rfl | (simp; done) | (simp [*]; done), by repeat (first | exact Drawn0.refl _ | apply Drawn0.step)⟩

end Go.Proofs.YtijbkiajhicooaaDoor.PW

namespace Go.Proofs.YtijbkiajhicooaaDoor.PW
open Go.RowKit Go.Proofs.YtijbkiajhicooaaDoorW.PrintWords Go.Proofs.YtijbkiajhicooaaDoorW.PrintLast Go.Proofs.YtijbkiajhicooaaDoorW.PrintMore
attribute [local go_sem] max2_int min2_int max_two min_two max_three min_three max_four min_four   -- for this text's walks alone
set_option linter.unusedVariables false
set_option linter.unusedSimpArgs false

def wkT : List Int := [97, 98, 32, 99, 95, 57, 44, 32, 195, 169, 120]
def wkC : List Int := [97, 9, 98]
def wkW : List Int := [97, 97, 32, 98, 98, 32, 99, 99]
def wkH : List S36 := [⟨0, 2⟩, ⟨3, 6⟩, ⟨8, 11⟩]
theorem wk_around : words_Around.f 30 wkT 9 = some (8, 11, 3, 0) := by kernel_rfl
theorem wk_next : words_Next.f 30 wkT 3 = some (8, 0) := by kernel_rfl
theorem wk_prev : words_Prev.f 30 wkT 8 = some (3, 0) := by kernel_rfl
theorem wk_column : words_Column.f wkC 3 4 = some (5, 0) := by kernel_rfl
theorem wk_wrap : words_Wrap.f 30 wkW 4 = some ([3, 6], 0) := by kernel_rfl
theorem wk_all : words_All.f 30 wkT = some wkH := by kernel_rfl
theorem wk_same : galleyref22_SameHits.f 30 wkH wkH = some true := by kernel_rfl
theorem wk_ints : galleyref01_SameInts.f 30 [3, 6] [3, 6] = some true := by kernel_rfl
theorem wk_kind : words_Kind.f 3 95 1 true = some 3 := by kernel_rfl
def galleylaw22_wakes.f : Option Bool := some true
theorem C_const {k : IntKind} {w : World} {g : Nat} {t : TypeId} {fr : Nat × Nat} (l : List Int) (cs : Array Value) (hcs : cs = (l.map (Value.int k)).toArray) (h : w.heap[g]? = some (.cells cs t fr)) (hl : l.length ≤ 9223372036854775807) : Kd.C (Kd.int k) w (some ⟨g, 0, none⟩) l.length l :=
 Kd.C_of_reads (enc := Value.int k) (d := (0 : Int)) (h1 := fun _ => rfl) ⟨rfl, hl, fun _ => ⟨_, rfl, fun j hj => by
  rw [add_plain, cell_of_row w g j cs t fr h]
  subst hcs
  simp [hj]⟩⟩
theorem R_wkH (w W : World) (hB : Below w.heap.size w W) : k36.R 36 (W.alloc (.cells #[.int .i64 0, .int .i64 2, .int .i64 3, .int .i64 6, .int .i64 8, .int .i64 11] 36)) w.heap.size (fun _ => True) (.slice (some ⟨W.heap.size, 0, none⟩) 3 3) wkH := by
 have h2 := World.ownsRow_lit (base := w.heap.size) (e := 36) (size := 2) W #[.int .i64 0, .int .i64 2, .int .i64 3, .int .i64 6, .int .i64 8, .int .i64 11] 3 hB.size (by simp [maxLen]) (by simp)
 refine ⟨fun _ _ => trivial, _, (by simpa using h2 : World.ownsRow _ _ _ 2 _ 3 _), rfl, fun j p hj => ?_⟩
 match j, hj with
 | 0, hj => cases hj; exact k36_mkM _ _ _ ⟨0, 2⟩
 | 1, hj => cases hj; exact k36_mkM _ _ _ ⟨3, 6⟩
 | 2, hj => cases hj; exact k36_mkM _ _ _ ⟨8, 11⟩
 | j + 3, hj => simp [wkH] at hj
set_option maxRecDepth 100000 in
set_option maxHeartbeats 4000000 in
theorem galleylaw22_wakes.walk (w : World) (hL : LaidBad w) :
  Calls Tryd.prog 13 #[] w fun e w' => e = .returned (.bool true) ∧ Below w.heap.size w w' := by
 have kc := fun (w : World) (C : Array Value) (n c : Nat) => Lib.run_convert_bytes_const (P := Tryd.prog) w 29 5 C n c Tryd.underlying29 Tryd.underlying5
 have hu := Tryd.underlying36
 have hu2 := Tryd.underlying23
 obtain ⟨W1, hW1⟩ : ∃ W1, w.alloc (.cells #[.int .u8 97, .int .u8 98, .int .u8 32, .int .u8 99, .int .u8 95, .int .u8 57, .int .u8 44, .int .u8 32, .int .u8 195, .int .u8 169, .int .u8 120] 5 (11, 12)) = W1 := ⟨_, rfl⟩
 have hB1 : Below w.heap.size w W1 := by rw [← hW1]; exact (Below.refl _ w).alloc (Nat.le_refl _) _
 have HB1 := Aside0.mk hB1
 have HT1 : Aside0 (Kd.C (Kd.int .u8) W1 (some ⟨w.heap.size, 0, none⟩) wkT.length wkT) := Aside0.mk (C_const (t := 5) (fr := (11, 12)) wkT _ rfl (by rw [← hW1]; exact World.alloc_heap_new w _) (by decide))
 have HL1 := Aside0.mk (laid_below hL hB1)
 have HL := Aside0.mk hL
 clear hL hB1
 go_enter Tryd.func13, Tryd.ntmps13
 go_wp2_with fail
 refine (words_Around.calls 30 _ 11 wkT 9 8 11 3 0 _ HT1.out (Nat.le_refl _) HL1.out wk_around).mono ?_
 rintro e w2 ⟨rfl, hb2⟩
 have HB2 := Aside0.mk (below_step HB1.out hb2)
 have HT2 := Aside0.mk (Kd.C_below HT1.out hb2)
 clear hb2 hW1 HB1 HT1 HL1
 go_wp2_with fail
 have HB2' := Aside0.mk (below_alloc HB2.out (.cells #[.int .i64 8, .int .i64 11] 36))
 have HT2' := Aside0.mk (Kd.C_alloc HT2.out (.cells #[.int .i64 8, .int .i64 11] 36))
 refine (words_Next.calls 30 _ 11 wkT 3 8 0 _ HT2'.out (Nat.le_refl _) (laid_below HL.out HB2'.out) wk_next).mono ?_
 rintro e w3 ⟨rfl, hb3⟩
 have HG3 := Aside0.mk (blk_below (blk_new w2 (.cells #[.int .i64 8, .int .i64 11] 36)) hb3)
 have HB3 := Aside0.mk (below_step HB2'.out hb3)
 have HT3 := Aside0.mk (Kd.C_below HT2'.out hb3)
 clear hb3 HB2 HT2 HB2' HT2'
 go_wp2_with fail
 refine (words_Prev.calls 30 _ 11 wkT 8 3 0 _ HT3.out (Nat.le_refl _) (laid_below HL.out HB3.out) wk_prev).mono ?_
 rintro e w4 ⟨rfl, hb4⟩
 have HG4 := Aside0.mk (blk_below HG3.out hb4)
 have HB4 := Aside0.mk (below_step HB3.out hb4)
 have HT4 := Aside0.mk (Kd.C_below HT3.out hb4)
 clear hb4 HG3 HB3 HT3
 go_wp2_with fail
 have HB4' := Aside0.mk (below_alloc HB4.out (.cells #[.int .u8 97, .int .u8 9, .int .u8 98] 5 (3, 4)))
 have HT4' := Aside0.mk (Kd.C_alloc HT4.out (.cells #[.int .u8 97, .int .u8 9, .int .u8 98] 5 (3, 4)))
 have HC4 : Aside0 (Kd.C (Kd.int .u8) (w4.alloc (.cells #[.int .u8 97, .int .u8 9, .int .u8 98] 5 (3, 4))) (some ⟨w4.heap.size, 0, none⟩) wkC.length wkC) := Aside0.mk (C_const (t := 5) (fr := (3, 4)) wkC _ rfl (World.alloc_heap_new w4 _) (by decide))
 refine (words_Column.calls _ 3 wkC 3 4 5 0 _ HC4.out (Nat.le_refl _) (laid_below HL.out HB4'.out) wk_column).mono ?_
 rintro e w5 ⟨rfl, hb5⟩
 have HG5 := Aside0.mk (blk_below (blk_alloc HG4.out (.cells #[.int .u8 97, .int .u8 9, .int .u8 98] 5 (3, 4))) hb5)
 have HB5 := Aside0.mk (below_step HB4'.out hb5)
 have HT5 := Aside0.mk (Kd.C_below HT4'.out hb5)
 clear hb5 HG4 HB4 HT4 HB4' HT4' HC4
 go_wp2_with fail
 have HB5' := Aside0.mk (below_alloc HB5.out (.cells #[.int .u8 97, .int .u8 97, .int .u8 32, .int .u8 98, .int .u8 98, .int .u8 32, .int .u8 99, .int .u8 99] 5 (8, 9)))
 have HT5' := Aside0.mk (Kd.C_alloc HT5.out (.cells #[.int .u8 97, .int .u8 97, .int .u8 32, .int .u8 98, .int .u8 98, .int .u8 32, .int .u8 99, .int .u8 99] 5 (8, 9)))
 have HC5 : Aside0 (Kd.C (Kd.int .u8) (w5.alloc (.cells #[.int .u8 97, .int .u8 97, .int .u8 32, .int .u8 98, .int .u8 98, .int .u8 32, .int .u8 99, .int .u8 99] 5 (8, 9))) (some ⟨w5.heap.size, 0, none⟩) wkW.length wkW) := Aside0.mk (C_const (t := 5) (fr := (8, 9)) wkW _ rfl (World.alloc_heap_new w5 _) (by decide))
 refine (words_Wrap.calls 30 _ 8 wkW 4 [3, 6] 0 _ HC5.out (Nat.le_refl _) (laid_below HL.out HB5'.out) wk_wrap).mono ?_
 rintro e w6 ⟨vw, rfl, hv6, hb6⟩
 have HG6 := Aside0.mk (blk_below (blk_alloc HG5.out (.cells #[.int .u8 97, .int .u8 97, .int .u8 32, .int .u8 98, .int .u8 98, .int .u8 32, .int .u8 99, .int .u8 99] 5 (8, 9))) hb6)
 have HB6 := Aside0.mk (below_step HB5'.out hb6)
 have HT6 := Aside0.mk (Kd.C_below HT5'.out hb6)
 obtain ⟨AW, cW, rfl⟩ := Kd.R_slice hv6
 have HV6 := Aside0.mk (Kd.R_reads' hv6)
 clear hb6 HG5 HB5 HT5 HB5' HT5' HC5 hv6
 have c60 := blk_cell HG6.out 0
 have c61 := blk_cell HG6.out 1
 go_wp2_with fail
 refine (words_All.calls 30 _ 11 wkT wkH _ HT6.out (Nat.le_refl _) (laid_below HL.out HB6.out) wk_all).mono ?_
 rintro e w7 ⟨va, rfl, hv7, hb7⟩
 obtain ⟨AA, cA, rfl⟩ := Kd.R_slice hv7
 have HV7 := Aside0.mk (Kd.R_reads' hv7)
 have HB7 := Aside0.mk (below_step HB6.out hb7)
 have HW7 := Aside0.mk (Kd.C_below HV6.out.2.2 hb7)
 clear hb7 hv7 c60 c61 HG6 HB6 HT6
 go_wp2_with fail
 have hH := R_wkH w7 w7 (Below.refl _ _)
 refine (galleyref22_SameHits.calls 30 AA cA wkH (some ⟨w7.heap.size, 0, none⟩) 3 wkH true _ (Kd.C_alloc HV7.out.2.2 _) HV7.out.2.1 (Kd.R_reads' hH).2.2 (Kd.R_reads' hH).2.1 wk_same).mono ?_
 rintro e w8 ⟨rfl, ⟨n8, rfl⟩⟩
 go_wp2_with fail
 obtain ⟨W8, hW8⟩ : ∃ W8, ((w7.alloc (.cells #[.int .i64 0, .int .i64 2, .int .i64 3, .int .i64 6, .int .i64 8, .int .i64 11] 36)).drewN n8) = W8 := ⟨_, rfl⟩
 have HB8 := Aside0.mk (show Below w.heap.size w W8 by rw [← hW8]; exact pw_below_drewN (below_alloc HB7.out _) _)
 have HW8 := Aside0.mk (show Kd.C (Kd.int .i64) W8 AW [3, 6].length [3, 6] by rw [← hW8]; exact Kd.C_drewN (Kd.C_alloc HW7.out _) _)
 have hs8 : W8.heap.size = w7.heap.size + 1 := by rw [← hW8]; simp
 rw [hW8]
 clear hW8
 have HI8 : Aside0 (Kd.C (Kd.int .i64) (W8.alloc (.cells #[.int .i64 3, .int .i64 6] 3)) (some ⟨w7.heap.size + 1, 0, none⟩) [3, 6].length [3, 6]) := Aside0.mk (C_const (t := 3) (fr := (0, 0)) [3, 6] _ rfl (by rw [← hs8]; exact World.alloc_heap_new W8 _) (by decide))
 refine (galleyref01_SameInts.calls 30 AW cW [3, 6] (some ⟨w7.heap.size + 1, 0, none⟩) 2 [3, 6] true _ (Kd.C_alloc HW8.out _) HV6.out.2.1 HI8.out (Nat.le_refl _) wk_ints).mono ?_
 rintro e w9 ⟨rfl, ⟨n9, rfl⟩⟩
 have HB9 := Aside0.mk (pw_below_drewN (below_alloc HB8.out (.cells #[.int .i64 3, .int .i64 6] 3)) n9)
 go_wp2_with fail
 refine (words_Kind.calls 3 95 1 true 3 _ wk_kind).mono ?_
 rintro e wa ⟨rfl, hba⟩
 go_wp2
 go_ret
 exact ⟨rfl, below_step HB9.out hba⟩
theorem galleylaw22_wakes.calls (r : Bool) (w : World) (hL : LaidBad w) (h : galleylaw22_wakes.f = some r) :
  Calls Tryd.prog 13 #[] w fun e w' => e = .returned (.bool r) ∧ Below w.heap.size w w' := by
 cases h
 exact galleylaw22_wakes.walk w hL

end Go.Proofs.YtijbkiajhicooaaDoor.PW

namespace Go.Proofs.YtijbkiajhicooaaDoor.PW
open Go.RowKit Go.Proofs.YtijbkiajhicooaaDoorW.PrintWords Go.Proofs.YtijbkiajhicooaaDoorW.PrintLast Go.Proofs.YtijbkiajhicooaaDoorW.PrintMore
attribute [local go_sem] max2_int min2_int max_two min_two max_three min_three max_four min_four   -- for this text's walks alone
set_option linter.unusedVariables false
set_option linter.unusedSimpArgs false

def galleylaw22_own.f (l0 : List Int) : Option (List Int) := (some (([] : List Int) : List Int)).bind fun y190 => (if y190.length + l0.length < 140737488355328 then (some (y190 ++ l0)) else (none))
set_option maxHeartbeats 8000000 in
set_option maxRecDepth 100000 in
theorem galleylaw22_own.calls (A0 : Option Addr) (c0 : Nat) (l0 : List Int) (r : List Int) (w : World) (hr0 : Kd.C (Kd.int .u8) w A0 l0.length l0) (hc0 : l0.length ≤ c0) (h : galleylaw22_own.f l0 = some r) :
  Calls Tryd.prog 18 #[.slice A0 l0.length c0] w fun e w' => ∃ v0_ : Value, e = .returned (v0_) ∧ Kd.R (Kd.int .u8) 5 w' w.heap.size (fun _ => True) v0_ r ∧ Below w.heap.size w w' := by
 have HR0 := Aside0.mk hr0
 have HC0 := Aside0.mk hc0
 clear hr0 hc0
 have HB := Aside0.mk (Below.refl w.heap.size w)
 have H : ((some (([] : List Int) : List Int)).bind fun y190 => (if y190.length + l0.length < 140737488355328 then (some (y190 ++ l0)) else (none))) = some r := h
 clear h
 obtain ⟨y190, hy190⟩ : ∃ y_ : List Int, y_ = (([] : List Int)) := ⟨_, rfl⟩
 replace H : (if y190.length + l0.length < 140737488355328 then (some (y190 ++ l0)) else (none)) = some r := by first | (rw [hy190]; with_reducible exact H) | (have H2_ := (Option.bind_some _ _).symm.trans H; rw [hy190]; with_reducible exact H2_) | (have H2_ := (Option.bind_some _ _).symm.trans H; with_reducible exact H2_) | with_reducible exact H | (rw [hy190]; exact H) | exact H
 have Ny190 := Aside0.mk hy190
 clear hy190
 by_cases c2 : y190.length + l0.length < 140737488355328
 ·rw [if_pos c2] at H
  have LMc2 := Aside0.mk c2
  clear c2
  obtain ⟨y193, hy193⟩ : ∃ y_ : List Int, y_ = (y190 ++ l0) := ⟨_, rfl⟩
  replace H : (some y193) = some r := by first | (rw [hy193]; with_reducible exact H) | (have H2_ := (Option.bind_some _ _).symm.trans H; rw [hy193]; with_reducible exact H2_) | (have H2_ := (Option.bind_some _ _).symm.trans H; with_reducible exact H2_) | with_reducible exact H | (rw [hy193]; exact H) | exact H
  have Ny193 := Aside0.mk hy193
  clear hy193
  obtain rfl := Option.some.inj H
  go_enter Tryd.func18, Tryd.ntmps18
  go_wp2_with (first | ((with_reducible refine gate_dst (N := 3) rfl ?_); refine Kd.R_lit (Kd.int .u8) _ 5 ?hg (N := 3) ?hd (xs := ([] : List Int)) (inner := []) (ok := fun _ => True) (okp := fun _ => True) ?hr ?hp (fun _ hk => hk) trivial (Below.refl _ _) (Nat.le_refl _) (by simp) ?_; (case hd => rfl); (case hg => rfl); (case hr => first | (go_simp; done) | (go_simp; rfl)); (case hp => exact (Reps.none _ _)); intro v191 w3 ho4 hb hg_ hnew_; clear hg_ hnew_; (first | rw [← Ny190.out] at ho4 | (simp only [Int.reduceToNat] at ho4; rw [← Ny190.out] at ho4)); have n0_ := Aside0.mk (Kd.R_lower ho4 (below_size (by repeat (first | (with_reducible first | exact HB.out | apply below_alloc | apply pw_below_drewN | apply below_drew1) | exact HB.out)))); have n1_ := Aside0.mk (below_step (by repeat (first | (with_reducible first | exact HB.out | apply below_alloc | apply pw_below_drewN | apply below_drew1) | exact HB.out)) hb); clear HB; have HO192 := n0_; have HB := n1_; clear n0_ n1_; clear hb ho4) | ((with_reducible refine gate_builtin (b := .append) (xs := #[.tmp 3, .tmp 4]) rfl ?_); at_builtin; refine Kd.R_append_rows (Kd.int .u8) (w0 := w) w.heap.size rfl (.tmp 3) (.tmp 4) 29 5 (.int .u8 0) 1 rfl Tryd.underlying29 info5 rfl (by decide) (by omega) v191 y190 l0 _ _ _ (fun _ => True) (fun _ => False) rfl rfl ?aO ?aR (fun _ _ h => h) (fun _ h => h.elim) ?aF ?aB ?aS ?aL ?_; (case aR => repeat (first | exact (Kd.C_below HR0.out HB.out) | (with_reducible refine Kd.C_alloc ?_ _) | (with_reducible refine Kd.C_drewN ?_ _) | (with_reducible refine Kd.C_drew ?_))); (case aB => exact (by repeat (first | (with_reducible first | exact HB.out | apply below_alloc | apply pw_below_drewN | apply below_drew1) | exact HB.out))); (case aF => exact (fun _ _ => trivial)); (case aO => exact (by (with_reducible repeat (first | apply Kd.R_alloc | apply Kd.R_drewN | apply Kd.R_drew)); exact HO192.out)); (case aS => exact (below_size (by repeat (first | (with_reducible first | exact HB.out | apply below_alloc | apply pw_below_drewN | apply below_drew1) | exact HB.out)))); (case aL => have := LMc2.out; omega); intro v194 w5 ho hb hg hat; rw [← Ny193.out] at ho; have n0_ := Aside0.mk (hb); have n1_ := Aside0.mk (ho); clear HB; clear HO192; have HB := n0_; have HO195 := n1_; clear n0_ n1_; clear ho hb hg hat))
  go_ret
  exact ⟨_, by first | rfl | (simp [errW_none, errW_some] <;> rfl) | (simp [*, errW_none, errW_some] <;> rfl), by (with_reducible repeat (first | apply Kd.R_alloc | apply Kd.R_drewN | apply Kd.R_drew)); exact HO195.out, by repeat (first | (with_reducible first | exact HB.out | apply below_alloc | apply pw_below_drewN | apply below_drew1) | exact HB.out)⟩
 ·rw [if_neg c2] at H
  exact absurd H (by simp)

end Go.Proofs.YtijbkiajhicooaaDoor.PW

namespace Go.Proofs.YtijbkiajhicooaaDoor.PW
open Go.RowKit Go.Proofs.YtijbkiajhicooaaDoorW.PrintWords Go.Proofs.YtijbkiajhicooaaDoorW.PrintLast Go.Proofs.YtijbkiajhicooaaDoorW.PrintMore
attribute [local go_sem] max2_int min2_int max_two min_two max_three min_three max_four min_four   -- for this text's walks alone
set_option linter.unusedVariables false
set_option linter.unusedSimpArgs false

mutual
def galleyref22_Kind.j0 : Nat → Int → Bool → Option (Int)
 | 0, _, _ => none
 | k + 1, x3, x14 => if x14 = true then (some 1) else (if x3 = 10 then (galleyref22_Kind.j1 k x3 true) else (galleyref22_Kind.j1 k x3 (x3 == 13)))
def galleyref22_Kind.j1 : Nat → Int → Bool → Option (Int)
 | 0, _, _ => none
 | k + 1, x3, x20 => if x20 = true then (some 2) else (if x3 ≥ 48 then (if x3 ≤ 57 then (some 3) else (if x3 ≥ 65 then (if x3 ≤ 90 then (some 3) else (if x3 ≥ 97 then (if x3 ≤ 122 then (some 3) else (if x3 = 95 then (some 3) else (if x3 ≥ 128 then (some 3) else (some 4)))) else (if x3 = 95 then (some 3) else (if x3 ≥ 128 then (some 3) else (some 4))))) else (if x3 ≥ 97 then (if x3 ≤ 122 then (some 3) else (if x3 = 95 then (some 3) else (if x3 ≥ 128 then (some 3) else (some 4)))) else (if x3 = 95 then (some 3) else (if x3 ≥ 128 then (some 3) else (some 4)))))) else (if x3 ≥ 65 then (if x3 ≤ 90 then (some 3) else (if x3 ≥ 97 then (if x3 ≤ 122 then (some 3) else (if x3 = 95 then (some 3) else (if x3 ≥ 128 then (some 3) else (some 4)))) else (if x3 = 95 then (some 3) else (if x3 ≥ 128 then (some 3) else (some 4))))) else (if x3 ≥ 97 then (if x3 ≤ 122 then (some 3) else (if x3 = 95 then (some 3) else (if x3 ≥ 128 then (some 3) else (some 4)))) else (if x3 = 95 then (some 3) else (if x3 ≥ 128 then (some 3) else (some 4))))))
end
def galleyref22_Kind.f (k : Nat) (a0_0 : Int) (a0_1 : Int) (a0_2 : Bool) : Option (Int) := if a0_2 = true then (if a0_0 = 32 then (galleyref22_Kind.j0 k a0_0 true) else (galleyref22_Kind.j0 k a0_0 (a0_0 == 9))) else (some 5)
theorem galleyref22_Kind.mono_l : ∀ k, (∀ y0 y1, LeO (galleyref22_Kind.j0 k y0 y1) (galleyref22_Kind.j0 (k + 1) y0 y1)) ∧ (∀ y0 y1, LeO (galleyref22_Kind.j1 k y0 y1) (galleyref22_Kind.j1 (k + 1) y0 y1))
 | 0 => ⟨fun _ _ r h => by simp [galleyref22_Kind.j0] at h, fun _ _ r h => by simp [galleyref22_Kind.j1] at h⟩
 | k + 1 => by
  obtain ⟨ih0, ih1⟩ := galleyref22_Kind.mono_l k
  refine ⟨?_, ?_⟩
  ·intro y0 y1
   unfold galleyref22_Kind.j0
   repeat' first
   | (with_reducible exact ih0 _ _)
   | (with_reducible exact ih1 _ _)
   | (with_reducible exact LeO.refl _)
   | (with_reducible exact LeO.none _)
   | (with_reducible refine LeO.ite ?_ ?_)
   | (with_reducible refine LeO.bind ?_ (fun _ => ?_))
   | exact ih0 _ _
   | exact ih1 _ _
   | exact LeO.none _
   | refine LeO.ite ?_ ?_
   | refine LeO.bind ?_ (fun _ => ?_)
  ·intro y0 y1
   unfold galleyref22_Kind.j1
   repeat' first
   | (with_reducible exact ih0 _ _)
   | (with_reducible exact ih1 _ _)
   | (with_reducible exact LeO.refl _)
   | (with_reducible exact LeO.none _)
   | (with_reducible refine LeO.ite ?_ ?_)
   | (with_reducible refine LeO.bind ?_ (fun _ => ?_))
   | exact ih0 _ _
   | exact ih1 _ _
   | exact LeO.none _
   | refine LeO.ite ?_ ?_
   | refine LeO.bind ?_ (fun _ => ?_)
theorem galleyref22_Kind.mono : ∀ a0 a1 a2 k, LeO (galleyref22_Kind.f k a0 a1 a2) (galleyref22_Kind.f (k + 1) a0 a1 a2) := by
 intro a0 a1 a2 k
 obtain ⟨ih0, ih1⟩ := galleyref22_Kind.mono_l k
 unfold galleyref22_Kind.f
 repeat' first
   | (with_reducible exact ih0 _ _)
   | (with_reducible exact ih1 _ _)
   | (with_reducible exact LeO.refl _)
   | (with_reducible exact LeO.none _)
   | (with_reducible refine LeO.ite ?_ ?_)
   | (with_reducible refine LeO.bind ?_ (fun _ => ?_))
   | exact ih0 _ _
   | exact ih1 _ _
   | exact LeO.none _
   | refine LeO.ite ?_ ?_
   | refine LeO.bind ?_ (fun _ => ?_)
set_option maxHeartbeats 8000000 in
set_option maxRecDepth 100000 in
theorem galleyref22_Kind.calls (k : Nat) (a0_0 : Int) (a0_1 : Int) (a0_2 : Bool) (r : Int) (w : World) (h : galleyref22_Kind.f k a0_0 a0_1 a0_2 = some r) :
  Calls Tryd.prog 15 #[.agg #[.int .i32 a0_0, .int .i64 a0_1, .bool a0_2]] w fun e w' => e = .returned (.int .i64 r) ∧ Below w.heap.size w w' := by
 have hu23 := Tryd.underlying23
 have HB := Aside0.mk (Below.refl w.heap.size w)
 have H : (if a0_2 = true then (if a0_0 = 32 then (galleyref22_Kind.j0 k a0_0 true) else (galleyref22_Kind.j0 k a0_0 (a0_0 == 9))) else (some 5)) = some r := h
 clear h
 by_cases c2 : a0_2 = true
 ·subst c2
  have H1 : (if a0_0 = 32 then (galleyref22_Kind.j0 k a0_0 true) else (galleyref22_Kind.j0 k a0_0 (a0_0 == 9))) = some r := by rw [if_pos rfl] at H; exact H
  clear H
  have H := H1
  clear H1
  have HC3 := Aside0.mk H
  clear H
  go_enter Tryd.func15, Tryd.ntmps15
  go_upto_region 4 with (first | ((with_reducible refine gate_dst (N := 1) rfl ?_); refine box_event ?hg (N := 1) ?hd (cs := #[.int .i32 a0_0, .int .i64 a0_1, .bool true]) (t := 23) ?hr ?_; (case hd => rfl); (case hg => rfl); (case hr => first | (go_simp; done) | (go_simp; rfl)); intro gb185 hg w4 hbox hb; have n0_ := Aside0.mk (below_step (by repeat (first | (with_reducible first | exact HB.out | apply below_alloc | apply pw_below_drewN | apply below_drew1) | exact HB.out)) hb); have n1_ := Aside0.mk (hbox); have n2_ := Aside0.mk ((by rw [hg]; exact (below_size (by repeat (first | (with_reducible first | exact HB.out | apply below_alloc | apply pw_below_drewN | apply below_drew1) | exact HB.out))) : w.heap.size ≤ gb185)); have n3_ := Aside0.mk ((by rw [hg]; exact (below_size (by repeat (first | (with_reducible first | exact HB.out | apply below_alloc | apply pw_below_drewN | apply below_drew1) | exact HB.out))) : w.heap.size ≤ gb185)); clear HB; have HB := n0_; have BK185 := n1_; have GW185 := n2_; have GE185 := n3_; clear n0_ n1_ n2_ n3_; clear hb hbox hg; have hcz5_0 : w4.cell? ⟨gb185, 0, none⟩ = some (.int .i32 a0_0) := (blk_cell BK185.out 0).trans rfl; have hcz5_1 : w4.cell? ⟨gb185, 1, none⟩ = some (.int .i64 a0_1) := (blk_cell BK185.out 1).trans rfl; have hcz5_2 : w4.cell? ⟨gb185, 2, none⟩ = some (.bool true) := (blk_cell BK185.out 2).trans rfl; have hfz5_0 := blk_frozen BK185.out 0; have hfz5_1 := blk_frozen BK185.out 1; have hfz5_2 := blk_frozen BK185.out 2))
  (try simp only [Act.put, List.setIfInBounds_toArray, List.set_cons_zero, List.set_cons_succ])
  go_cut [14] (fun v14 wc => ∃ (kq : Nat) (x14_2 : Bool), v14 = .bool x14_2 ∧ Aside0 (galleyref22_Kind.j0 kq a0_0 x14_2 = some r) ∧ Aside0 (kq ≤ k) ∧ Aside0 (wc.heap[gb185]? = some (.cells #[.int .i32 a0_0, .int .i64 a0_1, .bool true] 23 (0, 0))) ∧ Aside0 (Below w.heap.size w wc))
  case first =>
   have H := HC3.out
   clear HC3
   by_cases c6 : a0_0 = 32
   ·rw [if_pos c6] at H
    have c6b0 : (a0_0 == 32) = true := beq_iff_eq.mpr c6
    have c6b1 : (a0_0 != 32) = false := bne_eq_false_iff_eq.mpr c6
    clear c6
    (first | rw [c6b0] | (simp only [i64_w, i32_w]; rw [c6b0]) | skip)
    have H' := Aside0.mk H
    clear H
    go_wp2
    go_meet
    case rel => exact ⟨_, (true), (by first | rfl | (simp; done) | (simp [*]; done)), H', ⟨by first | omega | exact Nat.le_refl _⟩, ⟨by (with_reducible repeat (first | refine blk_drewN ?_ _ | refine blk_drew ?_ | refine blk_alloc ?_ _)); exact BK185.out⟩, ⟨by repeat (first | (with_reducible first | exact HB.out | apply below_alloc | apply pw_below_drewN | apply below_drew1 | refine below_set ?_ GE185.out) | exact HB.out)⟩⟩
   ·rw [if_neg c6] at H
    have c6b0 : (a0_0 == 32) = false := beq_eq_false_iff_ne.mpr c6
    have c6b1 : (a0_0 != 32) = true := bne_iff_ne.mpr c6
    (first | rw [c6b0] | (simp only [i64_w, i32_w]; rw [c6b0]) | skip)
    have H' := Aside0.mk H
    clear H
    go_wp2
    go_meet
    case rel => exact ⟨_, ((a0_0 == 9)), (by first | rfl | (simp; done) | (simp [*]; done)), H', ⟨by first | omega | exact Nat.le_refl _⟩, ⟨by (with_reducible repeat (first | refine blk_drewN ?_ _ | refine blk_drew ?_ | refine blk_alloc ?_ _)); exact BK185.out⟩, ⟨by repeat (first | (with_reducible first | exact HB.out | apply below_alloc | apply pw_below_drewN | apply below_drew1 | refine below_set ?_ GE185.out) | exact HB.out)⟩⟩
  case rest =>
   clear HC3
   try clear c1
   try clear c2
   try clear p2
   try clear c6
   try clear c6b0
   try clear c6b1
   try clear hcz5_0
   try clear hcz5_1
   try clear hcz5_2
   try clear hfz5_0
   try clear hfz5_1
   try clear hfz5_2
   obtain ⟨kq, x14_2, rfl, HA, HJ2, BK185, HB⟩ := hcut
   cases kq with
   | zero => exact absurd HA.out (by simp [galleyref22_Kind.j0])
   | succ kj2 =>
    have H := HA.out
    clear HA
    simp only [galleyref22_Kind.j0] at H
    by_cases c7 : x14_2 = true
    ·subst c7
     have H1 : (some 1) = some r := by rw [if_pos rfl] at H; exact H
     clear H
     have H := H1
     clear H1
     obtain rfl := Option.some.inj H
     go_wp2
     go_ret
     exact ⟨by first | rfl | (simp [errW_none, errW_some] <;> rfl) | (simp [*, errW_none, errW_some] <;> rfl), by repeat (first | (with_reducible first | exact HB.out | apply below_alloc | apply pw_below_drewN | apply below_drew1 | refine below_set ?_ GE185.out) | exact HB.out)⟩
    ·replace c7 := Bool.eq_false_iff.mpr c7
     subst c7
     have H1 : (if a0_0 = 10 then (galleyref22_Kind.j1 kj2 a0_0 true) else (galleyref22_Kind.j1 kj2 a0_0 (a0_0 == 13))) = some r := by rw [if_neg (show ¬ (false = true) by decide)] at H; exact H
     clear H
     have H := H1
     clear H1
     have HC8 := Aside0.mk H
     clear H
     go_upto_region 6 with (fail)
     go_cut [20] (fun v20 wc => ∃ (kq : Nat) (x20_7 : Bool), v20 = .bool x20_7 ∧ Aside0 (galleyref22_Kind.j1 kq a0_0 x20_7 = some r) ∧ Aside0 (kq ≤ kj2) ∧ Aside0 (wc.heap[gb185]? = some (.cells #[.int .i32 a0_0, .int .i64 a0_1, .bool true] 23 (0, 0))) ∧ Aside0 (Below w.heap.size w wc))
     case first =>
      have H := HC8.out
      clear HC8
      by_cases c9 : a0_0 = 10
      ·rw [if_pos c9] at H
       have c9b0 : (a0_0 == 10) = true := beq_iff_eq.mpr c9
       have c9b1 : (a0_0 != 10) = false := bne_eq_false_iff_eq.mpr c9
       clear c9
       (first | rw [c9b0] | (simp only [i64_w, i32_w]; rw [c9b0]) | skip)
       have H' := Aside0.mk H
       clear H
       go_wp2
       go_meet
       case rel => exact ⟨_, (true), (by first | rfl | (simp; done) | (simp [*]; done)), H', ⟨by have := HJ2.out; first | omega | exact Nat.le_refl _⟩, ⟨by (with_reducible repeat (first | refine blk_drewN ?_ _ | refine blk_drew ?_ | refine blk_alloc ?_ _)); exact BK185.out⟩, ⟨by repeat (first | (with_reducible first | exact HB.out | apply below_alloc | apply pw_below_drewN | apply below_drew1 | refine below_set ?_ GE185.out) | exact HB.out)⟩⟩
      ·rw [if_neg c9] at H
       have c9b0 : (a0_0 == 10) = false := beq_eq_false_iff_ne.mpr c9
       have c9b1 : (a0_0 != 10) = true := bne_iff_ne.mpr c9
       (first | rw [c9b0] | (simp only [i64_w, i32_w]; rw [c9b0]) | skip)
       have H' := Aside0.mk H
       clear H
       go_wp2
       go_meet
       case rel => exact ⟨_, ((a0_0 == 13)), (by first | rfl | (simp; done) | (simp [*]; done)), H', ⟨by have := HJ2.out; first | omega | exact Nat.le_refl _⟩, ⟨by (with_reducible repeat (first | refine blk_drewN ?_ _ | refine blk_drew ?_ | refine blk_alloc ?_ _)); exact BK185.out⟩, ⟨by repeat (first | (with_reducible first | exact HB.out | apply below_alloc | apply pw_below_drewN | apply below_drew1 | refine below_set ?_ GE185.out) | exact HB.out)⟩⟩
     case rest =>
      clear HC8
      try clear c1
      try clear c2
      try clear p2
      try clear c6
      try clear c6b0
      try clear c6b1
      try clear c7
      try clear c9
      try clear c9b0
      try clear c9b1
      try clear hcz5_0
      try clear hcz5_1
      try clear hcz5_2
      try clear hfz5_0
      try clear hfz5_1
      try clear hfz5_2
      try clear p2
      obtain ⟨kq, x20_7, rfl, HA, HJ7, BK185, HB⟩ := hcut
      cases kq with
      | zero => exact absurd HA.out (by simp [galleyref22_Kind.j1])
      | succ kj7 =>
       have H := HA.out
       clear HA
       simp only [galleyref22_Kind.j1] at H
       by_cases c10 : x20_7 = true
       ·subst c10
        have H1 : (some 2) = some r := by rw [if_pos rfl] at H; exact H
        clear H
        have H := H1
        clear H1
        obtain rfl := Option.some.inj H
        go_wp2
        go_ret
        exact ⟨by first | rfl | (simp [errW_none, errW_some] <;> rfl) | (simp [*, errW_none, errW_some] <;> rfl), by repeat (first | (with_reducible first | exact HB.out | apply below_alloc | apply pw_below_drewN | apply below_drew1 | refine below_set ?_ GE185.out) | exact HB.out)⟩
       ·replace c10 := Bool.eq_false_iff.mpr c10
        subst c10
        have H1 : (if a0_0 ≥ 48 then (if a0_0 ≤ 57 then (some 3) else (if a0_0 ≥ 65 then (if a0_0 ≤ 90 then (some 3) else (if a0_0 ≥ 97 then (if a0_0 ≤ 122 then (some 3) else (if a0_0 = 95 then (some 3) else (if a0_0 ≥ 128 then (some 3) else (some 4)))) else (if a0_0 = 95 then (some 3) else (if a0_0 ≥ 128 then (some 3) else (some 4))))) else (if a0_0 ≥ 97 then (if a0_0 ≤ 122 then (some 3) else (if a0_0 = 95 then (some 3) else (if a0_0 ≥ 128 then (some 3) else (some 4)))) else (if a0_0 = 95 then (some 3) else (if a0_0 ≥ 128 then (some 3) else (some 4)))))) else (if a0_0 ≥ 65 then (if a0_0 ≤ 90 then (some 3) else (if a0_0 ≥ 97 then (if a0_0 ≤ 122 then (some 3) else (if a0_0 = 95 then (some 3) else (if a0_0 ≥ 128 then (some 3) else (some 4)))) else (if a0_0 = 95 then (some 3) else (if a0_0 ≥ 128 then (some 3) else (some 4))))) else (if a0_0 ≥ 97 then (if a0_0 ≤ 122 then (some 3) else (if a0_0 = 95 then (some 3) else (if a0_0 ≥ 128 then (some 3) else (some 4)))) else (if a0_0 = 95 then (some 3) else (if a0_0 ≥ 128 then (some 3) else (some 4)))))) = some r := by rw [if_neg (show ¬ (false = true) by decide)] at H; exact H
        clear H
        have H := H1
        clear H1
        by_cases c11 : a0_0 ≥ 48
        ·rw [if_pos c11] at H
         have c11b0 : decide (48 ≤ a0_0) = true := decide_eq_true c11
         clear c11
         by_cases c12 : a0_0 ≤ 57
         ·rw [if_pos c12] at H
          have c12b0 : decide (a0_0 ≤ 57) = true := decide_eq_true c12
          clear c12
          obtain rfl := Option.some.inj H
          go_wp2
          go_ret
          exact ⟨by first | rfl | (simp [errW_none, errW_some] <;> rfl) | (simp [*, errW_none, errW_some] <;> rfl), by repeat (first | (with_reducible first | exact HB.out | apply below_alloc | apply pw_below_drewN | apply below_drew1 | refine below_set ?_ GE185.out) | exact HB.out)⟩
         ·rw [if_neg c12] at H
          have c12b0 : decide (a0_0 ≤ 57) = false := decide_eq_false c12
          clear c12
          by_cases c13 : a0_0 ≥ 65
          ·rw [if_pos c13] at H
           have c13b0 : decide (65 ≤ a0_0) = true := decide_eq_true c13
           clear c13
           by_cases c14 : a0_0 ≤ 90
           ·rw [if_pos c14] at H
            have c14b0 : decide (a0_0 ≤ 90) = true := decide_eq_true c14
            clear c14
            obtain rfl := Option.some.inj H
            go_wp2
            go_ret
            exact ⟨by first | rfl | (simp [errW_none, errW_some] <;> rfl) | (simp [*, errW_none, errW_some] <;> rfl), by repeat (first | (with_reducible first | exact HB.out | apply below_alloc | apply pw_below_drewN | apply below_drew1 | refine below_set ?_ GE185.out) | exact HB.out)⟩
           ·rw [if_neg c14] at H
            have c14b0 : decide (a0_0 ≤ 90) = false := decide_eq_false c14
            clear c14
            by_cases c15 : a0_0 ≥ 97
            ·rw [if_pos c15] at H
             have c15b0 : decide (97 ≤ a0_0) = true := decide_eq_true c15
             clear c15
             by_cases c16 : a0_0 ≤ 122
             ·rw [if_pos c16] at H
              have c16b0 : decide (a0_0 ≤ 122) = true := decide_eq_true c16
              clear c16
              obtain rfl := Option.some.inj H
              go_wp2
              go_ret
              exact ⟨by first | rfl | (simp [errW_none, errW_some] <;> rfl) | (simp [*, errW_none, errW_some] <;> rfl), by repeat (first | (with_reducible first | exact HB.out | apply below_alloc | apply pw_below_drewN | apply below_drew1 | refine below_set ?_ GE185.out) | exact HB.out)⟩
             ·rw [if_neg c16] at H
              have c16b0 : decide (a0_0 ≤ 122) = false := decide_eq_false c16
              clear c16
              by_cases c17 : a0_0 = 95
              ·rw [if_pos c17] at H
               have c17b0 : (a0_0 == 95) = true := beq_iff_eq.mpr c17
               have c17b1 : (a0_0 != 95) = false := bne_eq_false_iff_eq.mpr c17
               clear c17
               obtain rfl := Option.some.inj H
               go_wp2
               go_ret
               exact ⟨by first | rfl | (simp [errW_none, errW_some] <;> rfl) | (simp [*, errW_none, errW_some] <;> rfl), by repeat (first | (with_reducible first | exact HB.out | apply below_alloc | apply pw_below_drewN | apply below_drew1 | refine below_set ?_ GE185.out) | exact HB.out)⟩
              ·rw [if_neg c17] at H
               have c17b0 : (a0_0 == 95) = false := beq_eq_false_iff_ne.mpr c17
               have c17b1 : (a0_0 != 95) = true := bne_iff_ne.mpr c17
               by_cases c18 : a0_0 ≥ 128
               ·rw [if_pos c18] at H
                have c18b0 : decide (128 ≤ a0_0) = true := decide_eq_true c18
                clear c18
                obtain rfl := Option.some.inj H
                go_wp2
                go_ret
                exact ⟨by first | rfl | (simp [errW_none, errW_some] <;> rfl) | (simp [*, errW_none, errW_some] <;> rfl), by repeat (first | (with_reducible first | exact HB.out | apply below_alloc | apply pw_below_drewN | apply below_drew1 | refine below_set ?_ GE185.out) | exact HB.out)⟩
               ·rw [if_neg c18] at H
                have c18b0 : decide (128 ≤ a0_0) = false := decide_eq_false c18
                clear c18
                obtain rfl := Option.some.inj H
                go_wp2
                go_ret
                exact ⟨by first | rfl | (simp [errW_none, errW_some] <;> rfl) | (simp [*, errW_none, errW_some] <;> rfl), by repeat (first | (with_reducible first | exact HB.out | apply below_alloc | apply pw_below_drewN | apply below_drew1 | refine below_set ?_ GE185.out) | exact HB.out)⟩
            ·rw [if_neg c15] at H
             have c15b0 : decide (97 ≤ a0_0) = false := decide_eq_false c15
             clear c15
             by_cases c19 : a0_0 = 95
             ·rw [if_pos c19] at H
              have c19b0 : (a0_0 == 95) = true := beq_iff_eq.mpr c19
              have c19b1 : (a0_0 != 95) = false := bne_eq_false_iff_eq.mpr c19
              clear c19
              obtain rfl := Option.some.inj H
              go_wp2
              go_ret
              exact ⟨by first | rfl | (simp [errW_none, errW_some] <;> rfl) | (simp [*, errW_none, errW_some] <;> rfl), by repeat (first | (with_reducible first | exact HB.out | apply below_alloc | apply pw_below_drewN | apply below_drew1 | refine below_set ?_ GE185.out) | exact HB.out)⟩
             ·rw [if_neg c19] at H
              have c19b0 : (a0_0 == 95) = false := beq_eq_false_iff_ne.mpr c19
              have c19b1 : (a0_0 != 95) = true := bne_iff_ne.mpr c19
              by_cases c20 : a0_0 ≥ 128
              ·rw [if_pos c20] at H
               have c20b0 : decide (128 ≤ a0_0) = true := decide_eq_true c20
               clear c20
               obtain rfl := Option.some.inj H
               go_wp2
               go_ret
               exact ⟨by first | rfl | (simp [errW_none, errW_some] <;> rfl) | (simp [*, errW_none, errW_some] <;> rfl), by repeat (first | (with_reducible first | exact HB.out | apply below_alloc | apply pw_below_drewN | apply below_drew1 | refine below_set ?_ GE185.out) | exact HB.out)⟩
              ·rw [if_neg c20] at H
               have c20b0 : decide (128 ≤ a0_0) = false := decide_eq_false c20
               clear c20
               obtain rfl := Option.some.inj H
               go_wp2
               go_ret
               exact ⟨by first | rfl | (simp [errW_none, errW_some] <;> rfl) | (simp [*, errW_none, errW_some] <;> rfl), by repeat (first | (with_reducible first | exact HB.out | apply below_alloc | apply pw_below_drewN | apply below_drew1 | refine below_set ?_ GE185.out) | exact HB.out)⟩
          ·rw [if_neg c13] at H
           have c13b0 : decide (65 ≤ a0_0) = false := decide_eq_false c13
           clear c13
           by_cases c21 : a0_0 ≥ 97
           ·rw [if_pos c21] at H
            have c21b0 : decide (97 ≤ a0_0) = true := decide_eq_true c21
            clear c21
            by_cases c22 : a0_0 ≤ 122
            ·rw [if_pos c22] at H
             have c22b0 : decide (a0_0 ≤ 122) = true := decide_eq_true c22
             clear c22
             obtain rfl := Option.some.inj H
             go_wp2
             go_ret
             exact ⟨by first | rfl | (simp [errW_none, errW_some] <;> rfl) | (simp [*, errW_none, errW_some] <;> rfl), by repeat (first | (with_reducible first | exact HB.out | apply below_alloc | apply pw_below_drewN | apply below_drew1 | refine below_set ?_ GE185.out) | exact HB.out)⟩
            ·rw [if_neg c22] at H
             have c22b0 : decide (a0_0 ≤ 122) = false := decide_eq_false c22
             clear c22
             by_cases c23 : a0_0 = 95
             ·rw [if_pos c23] at H
              have c23b0 : (a0_0 == 95) = true := beq_iff_eq.mpr c23
              have c23b1 : (a0_0 != 95) = false := bne_eq_false_iff_eq.mpr c23
              clear c23
              obtain rfl := Option.some.inj H
              go_wp2
              go_ret
              exact ⟨by first | rfl | (simp [errW_none, errW_some] <;> rfl) | (simp [*, errW_none, errW_some] <;> rfl), by repeat (first | (with_reducible first | exact HB.out | apply below_alloc | apply pw_below_drewN | apply below_drew1 | refine below_set ?_ GE185.out) | exact HB.out)⟩
             ·rw [if_neg c23] at H
              have c23b0 : (a0_0 == 95) = false := beq_eq_false_iff_ne.mpr c23
              have c23b1 : (a0_0 != 95) = true := bne_iff_ne.mpr c23
              by_cases c24 : a0_0 ≥ 128
              ·rw [if_pos c24] at H
               have c24b0 : decide (128 ≤ a0_0) = true := decide_eq_true c24
               clear c24
               obtain rfl := Option.some.inj H
               go_wp2
               go_ret
               exact ⟨by first | rfl | (simp [errW_none, errW_some] <;> rfl) | (simp [*, errW_none, errW_some] <;> rfl), by repeat (first | (with_reducible first | exact HB.out | apply below_alloc | apply pw_below_drewN | apply below_drew1 | refine below_set ?_ GE185.out) | exact HB.out)⟩
              ·rw [if_neg c24] at H
               have c24b0 : decide (128 ≤ a0_0) = false := decide_eq_false c24
               clear c24
               obtain rfl := Option.some.inj H
               go_wp2
               go_ret
               exact ⟨by first | rfl | (simp [errW_none, errW_some] <;> rfl) | (simp [*, errW_none, errW_some] <;> rfl), by repeat (first | (with_reducible first | exact HB.out | apply below_alloc | apply pw_below_drewN | apply below_drew1 | refine below_set ?_ GE185.out) | exact HB.out)⟩
           ·rw [if_neg c21] at H
            have c21b0 : decide (97 ≤ a0_0) = false := decide_eq_false c21
            clear c21
            by_cases c25 : a0_0 = 95
            ·rw [if_pos c25] at H
             have c25b0 : (a0_0 == 95) = true := beq_iff_eq.mpr c25
             have c25b1 : (a0_0 != 95) = false := bne_eq_false_iff_eq.mpr c25
             clear c25
             obtain rfl := Option.some.inj H
             go_wp2
             go_ret
             exact ⟨by first | rfl | (simp [errW_none, errW_some] <;> rfl) | (simp [*, errW_none, errW_some] <;> rfl), by repeat (first | (with_reducible first | exact HB.out | apply below_alloc | apply pw_below_drewN | apply below_drew1 | refine below_set ?_ GE185.out) | exact HB.out)⟩
            ·rw [if_neg c25] at H
             have c25b0 : (a0_0 == 95) = false := beq_eq_false_iff_ne.mpr c25
             have c25b1 : (a0_0 != 95) = true := bne_iff_ne.mpr c25
             by_cases c26 : a0_0 ≥ 128
             ·rw [if_pos c26] at H
              have c26b0 : decide (128 ≤ a0_0) = true := decide_eq_true c26
              clear c26
              obtain rfl := Option.some.inj H
              go_wp2
              go_ret
              exact ⟨by first | rfl | (simp [errW_none, errW_some] <;> rfl) | (simp [*, errW_none, errW_some] <;> rfl), by repeat (first | (with_reducible first | exact HB.out | apply below_alloc | apply pw_below_drewN | apply below_drew1 | refine below_set ?_ GE185.out) | exact HB.out)⟩
             ·rw [if_neg c26] at H
              have c26b0 : decide (128 ≤ a0_0) = false := decide_eq_false c26
              clear c26
              obtain rfl := Option.some.inj H
              go_wp2
              go_ret
              exact ⟨by first | rfl | (simp [errW_none, errW_some] <;> rfl) | (simp [*, errW_none, errW_some] <;> rfl), by repeat (first | (with_reducible first | exact HB.out | apply below_alloc | apply pw_below_drewN | apply below_drew1 | refine below_set ?_ GE185.out) | exact HB.out)⟩
        ·rw [if_neg c11] at H
         have c11b0 : decide (48 ≤ a0_0) = false := decide_eq_false c11
         clear c11
         by_cases c27 : a0_0 ≥ 65
         ·rw [if_pos c27] at H
          have c27b0 : decide (65 ≤ a0_0) = true := decide_eq_true c27
          clear c27
          by_cases c28 : a0_0 ≤ 90
          ·rw [if_pos c28] at H
           have c28b0 : decide (a0_0 ≤ 90) = true := decide_eq_true c28
           clear c28
           obtain rfl := Option.some.inj H
           go_wp2
           go_ret
           exact ⟨by first | rfl | (simp [errW_none, errW_some] <;> rfl) | (simp [*, errW_none, errW_some] <;> rfl), by repeat (first | (with_reducible first | exact HB.out | apply below_alloc | apply pw_below_drewN | apply below_drew1 | refine below_set ?_ GE185.out) | exact HB.out)⟩
          ·rw [if_neg c28] at H
           have c28b0 : decide (a0_0 ≤ 90) = false := decide_eq_false c28
           clear c28
           by_cases c29 : a0_0 ≥ 97
           ·rw [if_pos c29] at H
            have c29b0 : decide (97 ≤ a0_0) = true := decide_eq_true c29
            clear c29
            by_cases c30 : a0_0 ≤ 122
            ·rw [if_pos c30] at H
             have c30b0 : decide (a0_0 ≤ 122) = true := decide_eq_true c30
             clear c30
             obtain rfl := Option.some.inj H
             go_wp2
             go_ret
             exact ⟨by first | rfl | (simp [errW_none, errW_some] <;> rfl) | (simp [*, errW_none, errW_some] <;> rfl), by repeat (first | (with_reducible first | exact HB.out | apply below_alloc | apply pw_below_drewN | apply below_drew1 | refine below_set ?_ GE185.out) | exact HB.out)⟩
            ·rw [if_neg c30] at H
             have c30b0 : decide (a0_0 ≤ 122) = false := decide_eq_false c30
             clear c30
             by_cases c31 : a0_0 = 95
             ·rw [if_pos c31] at H
              have c31b0 : (a0_0 == 95) = true := beq_iff_eq.mpr c31
              have c31b1 : (a0_0 != 95) = false := bne_eq_false_iff_eq.mpr c31
              clear c31
              obtain rfl := Option.some.inj H
              go_wp2
              go_ret
              exact ⟨by first | rfl | (simp [errW_none, errW_some] <;> rfl) | (simp [*, errW_none, errW_some] <;> rfl), by repeat (first | (with_reducible first | exact HB.out | apply below_alloc | apply pw_below_drewN | apply below_drew1 | refine below_set ?_ GE185.out) | exact HB.out)⟩
             ·rw [if_neg c31] at H
              have c31b0 : (a0_0 == 95) = false := beq_eq_false_iff_ne.mpr c31
              have c31b1 : (a0_0 != 95) = true := bne_iff_ne.mpr c31
              by_cases c32 : a0_0 ≥ 128
              ·rw [if_pos c32] at H
               have c32b0 : decide (128 ≤ a0_0) = true := decide_eq_true c32
               clear c32
               obtain rfl := Option.some.inj H
               go_wp2
               go_ret
               exact ⟨by first | rfl | (simp [errW_none, errW_some] <;> rfl) | (simp [*, errW_none, errW_some] <;> rfl), by repeat (first | (with_reducible first | exact HB.out | apply below_alloc | apply pw_below_drewN | apply below_drew1 | refine below_set ?_ GE185.out) | exact HB.out)⟩
              ·rw [if_neg c32] at H
               have c32b0 : decide (128 ≤ a0_0) = false := decide_eq_false c32
               clear c32
               obtain rfl := Option.some.inj H
               go_wp2
               go_ret
               exact ⟨by first | rfl | (simp [errW_none, errW_some] <;> rfl) | (simp [*, errW_none, errW_some] <;> rfl), by repeat (first | (with_reducible first | exact HB.out | apply below_alloc | apply pw_below_drewN | apply below_drew1 | refine below_set ?_ GE185.out) | exact HB.out)⟩
           ·rw [if_neg c29] at H
            have c29b0 : decide (97 ≤ a0_0) = false := decide_eq_false c29
            clear c29
            by_cases c33 : a0_0 = 95
            ·rw [if_pos c33] at H
             have c33b0 : (a0_0 == 95) = true := beq_iff_eq.mpr c33
             have c33b1 : (a0_0 != 95) = false := bne_eq_false_iff_eq.mpr c33
             clear c33
             obtain rfl := Option.some.inj H
             go_wp2
             go_ret
             exact ⟨by first | rfl | (simp [errW_none, errW_some] <;> rfl) | (simp [*, errW_none, errW_some] <;> rfl), by repeat (first | (with_reducible first | exact HB.out | apply below_alloc | apply pw_below_drewN | apply below_drew1 | refine below_set ?_ GE185.out) | exact HB.out)⟩
            ·rw [if_neg c33] at H
             have c33b0 : (a0_0 == 95) = false := beq_eq_false_iff_ne.mpr c33
             have c33b1 : (a0_0 != 95) = true := bne_iff_ne.mpr c33
             by_cases c34 : a0_0 ≥ 128
             ·rw [if_pos c34] at H
              have c34b0 : decide (128 ≤ a0_0) = true := decide_eq_true c34
              clear c34
              obtain rfl := Option.some.inj H
              go_wp2
              go_ret
              exact ⟨by first | rfl | (simp [errW_none, errW_some] <;> rfl) | (simp [*, errW_none, errW_some] <;> rfl), by repeat (first | (with_reducible first | exact HB.out | apply below_alloc | apply pw_below_drewN | apply below_drew1 | refine below_set ?_ GE185.out) | exact HB.out)⟩
             ·rw [if_neg c34] at H
              have c34b0 : decide (128 ≤ a0_0) = false := decide_eq_false c34
              clear c34
              obtain rfl := Option.some.inj H
              go_wp2
              go_ret
              exact ⟨by first | rfl | (simp [errW_none, errW_some] <;> rfl) | (simp [*, errW_none, errW_some] <;> rfl), by repeat (first | (with_reducible first | exact HB.out | apply below_alloc | apply pw_below_drewN | apply below_drew1 | refine below_set ?_ GE185.out) | exact HB.out)⟩
         ·rw [if_neg c27] at H
          have c27b0 : decide (65 ≤ a0_0) = false := decide_eq_false c27
          clear c27
          by_cases c35 : a0_0 ≥ 97
          ·rw [if_pos c35] at H
           have c35b0 : decide (97 ≤ a0_0) = true := decide_eq_true c35
           clear c35
           by_cases c36 : a0_0 ≤ 122
           ·rw [if_pos c36] at H
            have c36b0 : decide (a0_0 ≤ 122) = true := decide_eq_true c36
            clear c36
            obtain rfl := Option.some.inj H
            go_wp2
            go_ret
            exact ⟨by first | rfl | (simp [errW_none, errW_some] <;> rfl) | (simp [*, errW_none, errW_some] <;> rfl), by repeat (first | (with_reducible first | exact HB.out | apply below_alloc | apply pw_below_drewN | apply below_drew1 | refine below_set ?_ GE185.out) | exact HB.out)⟩
           ·rw [if_neg c36] at H
            have c36b0 : decide (a0_0 ≤ 122) = false := decide_eq_false c36
            clear c36
            by_cases c37 : a0_0 = 95
            ·rw [if_pos c37] at H
             have c37b0 : (a0_0 == 95) = true := beq_iff_eq.mpr c37
             have c37b1 : (a0_0 != 95) = false := bne_eq_false_iff_eq.mpr c37
             clear c37
             obtain rfl := Option.some.inj H
             go_wp2
             go_ret
             exact ⟨by first | rfl | (simp [errW_none, errW_some] <;> rfl) | (simp [*, errW_none, errW_some] <;> rfl), by repeat (first | (with_reducible first | exact HB.out | apply below_alloc | apply pw_below_drewN | apply below_drew1 | refine below_set ?_ GE185.out) | exact HB.out)⟩
            ·rw [if_neg c37] at H
             have c37b0 : (a0_0 == 95) = false := beq_eq_false_iff_ne.mpr c37
             have c37b1 : (a0_0 != 95) = true := bne_iff_ne.mpr c37
             by_cases c38 : a0_0 ≥ 128
             ·rw [if_pos c38] at H
              have c38b0 : decide (128 ≤ a0_0) = true := decide_eq_true c38
              clear c38
              obtain rfl := Option.some.inj H
              go_wp2
              go_ret
              exact ⟨by first | rfl | (simp [errW_none, errW_some] <;> rfl) | (simp [*, errW_none, errW_some] <;> rfl), by repeat (first | (with_reducible first | exact HB.out | apply below_alloc | apply pw_below_drewN | apply below_drew1 | refine below_set ?_ GE185.out) | exact HB.out)⟩
             ·rw [if_neg c38] at H
              have c38b0 : decide (128 ≤ a0_0) = false := decide_eq_false c38
              clear c38
              obtain rfl := Option.some.inj H
              go_wp2
              go_ret
              exact ⟨by first | rfl | (simp [errW_none, errW_some] <;> rfl) | (simp [*, errW_none, errW_some] <;> rfl), by repeat (first | (with_reducible first | exact HB.out | apply below_alloc | apply pw_below_drewN | apply below_drew1 | refine below_set ?_ GE185.out) | exact HB.out)⟩
          ·rw [if_neg c35] at H
           have c35b0 : decide (97 ≤ a0_0) = false := decide_eq_false c35
           clear c35
           by_cases c39 : a0_0 = 95
           ·rw [if_pos c39] at H
            have c39b0 : (a0_0 == 95) = true := beq_iff_eq.mpr c39
            have c39b1 : (a0_0 != 95) = false := bne_eq_false_iff_eq.mpr c39
            clear c39
            obtain rfl := Option.some.inj H
            go_wp2
            go_ret
            exact ⟨by first | rfl | (simp [errW_none, errW_some] <;> rfl) | (simp [*, errW_none, errW_some] <;> rfl), by repeat (first | (with_reducible first | exact HB.out | apply below_alloc | apply pw_below_drewN | apply below_drew1 | refine below_set ?_ GE185.out) | exact HB.out)⟩
           ·rw [if_neg c39] at H
            have c39b0 : (a0_0 == 95) = false := beq_eq_false_iff_ne.mpr c39
            have c39b1 : (a0_0 != 95) = true := bne_iff_ne.mpr c39
            by_cases c40 : a0_0 ≥ 128
            ·rw [if_pos c40] at H
             have c40b0 : decide (128 ≤ a0_0) = true := decide_eq_true c40
             clear c40
             obtain rfl := Option.some.inj H
             go_wp2
             go_ret
             exact ⟨by first | rfl | (simp [errW_none, errW_some] <;> rfl) | (simp [*, errW_none, errW_some] <;> rfl), by repeat (first | (with_reducible first | exact HB.out | apply below_alloc | apply pw_below_drewN | apply below_drew1 | refine below_set ?_ GE185.out) | exact HB.out)⟩
            ·rw [if_neg c40] at H
             have c40b0 : decide (128 ≤ a0_0) = false := decide_eq_false c40
             clear c40
             obtain rfl := Option.some.inj H
             go_wp2
             go_ret
             exact ⟨by first | rfl | (simp [errW_none, errW_some] <;> rfl) | (simp [*, errW_none, errW_some] <;> rfl), by repeat (first | (with_reducible first | exact HB.out | apply below_alloc | apply pw_below_drewN | apply below_drew1 | refine below_set ?_ GE185.out) | exact HB.out)⟩
 ·replace c2 := Bool.eq_false_iff.mpr c2
  subst c2
  have H1 : (some 5) = some r := by rw [if_neg (show ¬ (false = true) by decide)] at H; exact H
  clear H
  have H := H1
  clear H1
  obtain rfl := Option.some.inj H
  go_enter Tryd.func15, Tryd.ntmps15
  go_wp2_with (first | ((with_reducible refine gate_dst (N := 1) rfl ?_); refine box_event ?hg (N := 1) ?hd (cs := #[.int .i32 a0_0, .int .i64 a0_1, .bool false]) (t := 23) ?hr ?_; (case hd => rfl); (case hg => rfl); (case hr => first | (go_simp; done) | (go_simp; rfl)); intro gb185 hg w41 hbox hb; have n0_ := Aside0.mk (below_step (by repeat (first | (with_reducible first | exact HB.out | apply below_alloc | apply pw_below_drewN | apply below_drew1) | exact HB.out)) hb); have n1_ := Aside0.mk (hbox); have n2_ := Aside0.mk ((by rw [hg]; exact (below_size (by repeat (first | (with_reducible first | exact HB.out | apply below_alloc | apply pw_below_drewN | apply below_drew1) | exact HB.out))) : w.heap.size ≤ gb185)); have n3_ := Aside0.mk ((by rw [hg]; exact (below_size (by repeat (first | (with_reducible first | exact HB.out | apply below_alloc | apply pw_below_drewN | apply below_drew1) | exact HB.out))) : w.heap.size ≤ gb185)); clear HB; have HB := n0_; have BK185 := n1_; have GW185 := n2_; have GE185 := n3_; clear n0_ n1_ n2_ n3_; clear hb hbox hg; have hcz42_0 : w41.cell? ⟨gb185, 0, none⟩ = some (.int .i32 a0_0) := (blk_cell BK185.out 0).trans rfl; have hcz42_1 : w41.cell? ⟨gb185, 1, none⟩ = some (.int .i64 a0_1) := (blk_cell BK185.out 1).trans rfl; have hcz42_2 : w41.cell? ⟨gb185, 2, none⟩ = some (.bool false) := (blk_cell BK185.out 2).trans rfl; have hfz42_0 := blk_frozen BK185.out 0; have hfz42_1 := blk_frozen BK185.out 1; have hfz42_2 := blk_frozen BK185.out 2))
  go_ret
  exact ⟨by first | rfl | (simp [errW_none, errW_some] <;> rfl) | (simp [*, errW_none, errW_some] <;> rfl), by repeat (first | (with_reducible first | exact HB.out | apply below_alloc | apply pw_below_drewN | apply below_drew1 | refine below_set ?_ GE185.out) | exact HB.out)⟩

end Go.Proofs.YtijbkiajhicooaaDoor.PW

namespace Go.Proofs.YtijbkiajhicooaaDoor.PW
open Go.RowKit Go.Proofs.YtijbkiajhicooaaDoorW.PrintWords Go.Proofs.YtijbkiajhicooaaDoorW.PrintLast Go.Proofs.YtijbkiajhicooaaDoorW.PrintMore
attribute [local go_sem] max2_int min2_int max_two min_two max_three min_three max_four min_four   -- for this text's walks alone
set_option linter.unusedVariables false
set_option linter.unusedSimpArgs false

def galleyref02_at.f (l0 : List Int) (a1 : Int) : Option (Int) := if a1 < 0 then (some (-1)) else (if a1 ≥ (l0.length : Int) then (some (-1)) else (if 0 ≤ a1 then (if a1 < (l0.length : Int) then (some (wrap64 (rd l0 a1))) else (none)) else (none)))
set_option maxHeartbeats 8000000 in
set_option maxRecDepth 100000 in
theorem galleyref02_at.calls (A0 : Option Addr) (c0 : Nat) (l0 : List Int) (a1 : Int) (r : Int) (w : World) (hr0 : Kd.C (Kd.int .u8) w A0 l0.length l0) (hc0 : l0.length ≤ c0) (h : galleyref02_at.f l0 a1 = some r) :
  Calls Tryd.prog 110 #[.slice A0 l0.length c0, .int .i64 a1] w fun e w' => e = .returned (.int .i64 r) ∧ Drawn0 w w' := by
 have HR0 := Aside0.mk hr0
 have HC0 := Aside0.mk hc0
 clear hr0 hc0
 have H : (if a1 < 0 then (some (-1)) else (if a1 ≥ (l0.length : Int) then (some (-1)) else (if 0 ≤ a1 then (if a1 < (l0.length : Int) then (some (wrap64 (rd l0 a1))) else (none)) else (none)))) = some r := h
 clear h
 by_cases c3 : a1 < 0
 ·rw [if_pos c3] at H
  have c3b0 : decide (a1 < 0) = true := decide_eq_true c3
  clear c3
  obtain rfl := Option.some.inj H
  go_enter Tryd.func110, Tryd.ntmps110
  go_wp2
  go_ret
  exact ⟨by first | rfl | (simp; done) | (simp [*]; done), by repeat (first | exact Drawn0.refl _ | apply Drawn0.step)⟩
 ·rw [if_neg c3] at H
  have c3b0 : decide (a1 < 0) = false := decide_eq_false c3
  clear c3
  by_cases c4 : a1 ≥ (l0.length : Int)
  ·rw [if_pos c4] at H
   have c4b0 : decide ((l0.length : Int) ≤ a1) = true := decide_eq_true c4
   clear c4
   obtain rfl := Option.some.inj H
   go_enter Tryd.func110, Tryd.ntmps110
   go_wp2
   go_ret
   exact ⟨by first | rfl | (simp; done) | (simp [*]; done), by repeat (first | exact Drawn0.refl _ | apply Drawn0.step)⟩
  ·rw [if_neg c4] at H
   have c4b0 : decide ((l0.length : Int) ≤ a1) = false := decide_eq_false c4
   clear c4
   by_cases c5 : 0 ≤ a1
   ·rw [if_pos c5] at H
    have c5b0 : decide (0 ≤ a1) = true := decide_eq_true c5
    clear c5
    by_cases c6 : a1 < (l0.length : Int)
    ·rw [if_pos c6] at H
     have c6b0 : decide (a1 < (l0.length : Int)) = true := decide_eq_true c6
     clear c6
     obtain rfl := Option.some.inj H
     have p196 : 0 ≤ (a1 : Int) := of_decide_eq_true (by first | (with_reducible assumption) | assumption)
     have q196 : a1 < (l0.length : Int) := of_decide_eq_true (by first | (with_reducible assumption) | assumption)
     obtain ⟨ad196, e196, hx196_0⟩ := Kd.at_int HR0.out a1 p196 q196
     cases e196
     replace p196 := eq_true p196
     replace q196 := eq_true q196
     go_enter Tryd.func110, Tryd.ntmps110
     go_wp2
     go_ret
     exact ⟨by first | rfl | (simp; done) | (simp [*]; done), by repeat (first | exact Drawn0.refl _ | apply Drawn0.step)⟩
    ·rw [if_neg c6] at H
     exact absurd H (by simp)
   ·rw [if_neg c5] at H
    exact absurd H (by simp)

end Go.Proofs.YtijbkiajhicooaaDoor.PW

namespace Go.Proofs.YtijbkiajhicooaaDoor.PW
open Go.RowKit Go.Proofs.YtijbkiajhicooaaDoorW.PrintWords Go.Proofs.YtijbkiajhicooaaDoorW.PrintLast Go.Proofs.YtijbkiajhicooaaDoorW.PrintMore
attribute [local go_sem] max2_int min2_int max_two min_two max_three min_three max_four min_four   -- for this text's walks alone
set_option linter.unusedVariables false
set_option linter.unusedSimpArgs false

def galleyref02_in.f (a0 : Int) (a1 : Int) (a2 : Int) : Option (Bool) := if a0 ≥ a1 then (some (decide (a0 ≤ a2))) else (some false)
set_option maxHeartbeats 8000000 in
set_option maxRecDepth 100000 in
theorem galleyref02_in.calls (a0 : Int) (a1 : Int) (a2 : Int) (r : Bool) (w : World) (h : galleyref02_in.f a0 a1 a2 = some r) :
  Calls Tryd.prog 111 #[.int .i64 a0, .int .i64 a1, .int .i64 a2] w fun e w' => e = .returned (.bool r) ∧ Drawn0 w w' := by
 have H : (if a0 ≥ a1 then (some (decide (a0 ≤ a2))) else (some false)) = some r := h
 clear h
 by_cases c4 : a0 ≥ a1
 ·rw [if_pos c4] at H
  have c4b0 : decide (a1 ≤ a0) = true := decide_eq_true c4
  clear c4
  obtain rfl := Option.some.inj H
  go_enter Tryd.func111, Tryd.ntmps111
  go_wp2
  go_ret
  exact ⟨by first | rfl | (simp; done) | (simp [*]; done), by repeat (first | exact Drawn0.refl _ | apply Drawn0.step)⟩
 ·rw [if_neg c4] at H
  have c4b0 : decide (a1 ≤ a0) = false := decide_eq_false c4
  clear c4
  obtain rfl := Option.some.inj H
  go_enter Tryd.func111, Tryd.ntmps111
  go_wp2
  go_ret
  exact ⟨by first | rfl | (simp; done) | (simp [*]; done), by repeat (first | exact Drawn0.refl _ | apply Drawn0.step)⟩

end Go.Proofs.YtijbkiajhicooaaDoor.PW

namespace Go.Proofs.YtijbkiajhicooaaDoor.PW
open Go.RowKit Go.Proofs.YtijbkiajhicooaaDoorW.PrintWords Go.Proofs.YtijbkiajhicooaaDoorW.PrintLast Go.Proofs.YtijbkiajhicooaaDoorW.PrintMore
attribute [local go_sem] max2_int min2_int max_two min_two max_three min_three max_four min_four   -- for this text's walks alone
set_option linter.unusedVariables false
set_option linter.unusedSimpArgs false

def inB (a lo hi : Int) : Bool := decide (lo ≤ a) && decide (a ≤ hi)
theorem inB_of (a lo hi : Int) : galleyref02_in.f a lo hi = some (inB a lo hi) := by
 unfold galleyref02_in.f inB
 by_cases h : a ≥ lo
 ·rw [if_pos h, decide_eq_true h, Bool.true_and]
 ·rw [if_neg h, decide_eq_false h, Bool.false_and]
def atI (l : List Int) (p : Int) : Int := if p < 0 ∨ p ≥ (l.length : Int) then -1 else wrap64 (rd l p)
theorem atI_of (l : List Int) (p : Int) : galleyref02_at.f l p = some (atI l p) := by
 unfold galleyref02_at.f atI
 by_cases h : p < 0
 ·rw [if_pos h, if_pos (.inl h)]
 ·rw [if_neg h]
  by_cases h2 : p ≥ (l.length : Int)
  ·rw [if_pos h2, if_pos (.inr h2)]
  ·rw [if_neg h2, if_pos (by omega), if_pos (by omega), if_neg (by omega)]
def three (x y : Int) : Bool := (x == 224 && inB y 160 191) || (inB x 225 236 && inB y 128 191) || (x == 237 && inB y 128 159) || (inB x 238 239 && inB y 128 191)
def four (x y : Int) : Bool := (x == 240 && inB y 144 191) || (inB x 241 243 && inB y 128 191) || (x == 244 && inB y 128 143)
def longOf (x y z w : Int) : Int :=
 if inB x 0 127 then 1 else if inB x 194 223 && inB y 128 191 then 2 else if inB z 128 191 && three x y then 3 else if inB z 128 191 && inB w 128 191 && four x y then 4 else 0
def longAt (l : List Int) (p : Int) : Int := longOf (atI l p) (atI l (wrap64 (p + 1))) (atI l (wrap64 (p + 2))) (atI l (wrap64 (p + 3)))
def galleyref02_Long.f (l0 : List Int) (a1 : Int) : Option Int := some (longAt l0 a1)
theorem in_any (a lo hi : Int) (w : World) : Calls Tryd.prog 111 #[.int .i64 a, .int .i64 lo, .int .i64 hi] w fun e w' => e = .returned (.bool (inB a lo hi)) ∧ Drawn0 w w' :=
 galleyref02_in.calls a lo hi _ w (inB_of a lo hi)
set_option maxRecDepth 100000 in
set_option maxHeartbeats 8000000 in
theorem galleyref02_Long.calls (A0 : Option Addr) (c0 : Nat) (l0 : List Int) (a1 : Int) (r : Int) (w : World) (hr0 : Kd.C (Kd.int .u8) w A0 l0.length l0) (hc0 : l0.length ≤ c0) (h : galleyref02_Long.f l0 a1 = some r) :
  Calls Tryd.prog 106 #[.slice A0 l0.length c0, .int .i64 a1] w fun e w' => e = .returned (.int .i64 r) ∧ Drawn0 w w' := by
 obtain rfl := Option.some.inj h
 clear h
 have HR := Aside0.mk hr0
 have HC := Aside0.mk hc0
 clear hr0 hc0
 unfold longAt
 have X := Aside0.mk (atI_of l0 a1)
 have Y := Aside0.mk (atI_of l0 (wrap64 (a1 + 1)))
 have Z := Aside0.mk (atI_of l0 (wrap64 (a1 + 2)))
 have V := Aside0.mk (atI_of l0 (wrap64 (a1 + 3)))
 generalize atI l0 a1 = x at *
 generalize atI l0 (wrap64 (a1 + 1)) = y at *
 generalize atI l0 (wrap64 (a1 + 2)) = z at *
 generalize atI l0 (wrap64 (a1 + 3)) = v at *
 go_enter Tryd.func106, Tryd.ntmps106
 go_wp2_with fail
 refine (galleyref02_at.calls A0 c0 l0 a1 x w HR.out HC.out X.out).mono ?_
 rintro e w' ⟨rfl, ⟨n1, rfl⟩⟩
 go_wp2_with fail
 refine (galleyref02_at.calls A0 c0 l0 _ y _ (Kd.C_drewN HR.out _) HC.out Y.out).mono ?_
 rintro e w' ⟨rfl, ⟨n2, rfl⟩⟩
 go_wp2_with fail
 refine (galleyref02_at.calls A0 c0 l0 _ z _ (Kd.C_drewN HR.out _) HC.out Z.out).mono ?_
 rintro e w' ⟨rfl, ⟨n3, rfl⟩⟩
 go_wp2_with fail
 refine (galleyref02_at.calls A0 c0 l0 _ v _ (Kd.C_drewN HR.out _) HC.out V.out).mono ?_
 rintro e w' ⟨rfl, ⟨n4, rfl⟩⟩
 go_wp2_with (go_at_call 111; refine (in_any _ _ _ _).mono ?_; rintro e w' ⟨rfl, ⟨nd, rfl⟩⟩)
 all_goals go_ret
 all_goals refine ⟨congrArg (fun q => Ending.returned (.int .i64 q)) ?_, by repeat (first | exact Drawn0.refl _ | apply Drawn0.step)⟩
 all_goals simp only [longOf, three, four]
 all_goals first | (simp only [*, if_true, if_false, Bool.false_eq_true, Bool.and_true, Bool.true_and, Bool.and_false, Bool.false_and, Bool.or_true, Bool.true_or, Bool.or_false, Bool.false_or]; done) | (simp [*]; done) | (clear X Y Z V HR HC; simp_all; done) | (clear X Y Z V HR HC; simp_all [inB]; done) | (clear X Y Z V HR HC; simp_all [inB]; omega)

end Go.Proofs.YtijbkiajhicooaaDoor.PW

namespace Go.Proofs.YtijbkiajhicooaaDoor.PW
open Go.RowKit Go.Proofs.YtijbkiajhicooaaDoorW.PrintWords Go.Proofs.YtijbkiajhicooaaDoorW.PrintLast Go.Proofs.YtijbkiajhicooaaDoorW.PrintMore
attribute [local go_sem] max2_int min2_int max_two min_two max_three min_three max_four min_four   -- for this text's walks alone
set_option linter.unusedVariables false
set_option linter.unusedSimpArgs false

def galleyref02_Inside.l0 : Nat → List Int → Int → Int → Option (Bool)
 | 0, _, _, _ => none
 | k + 1, x0, x1, x5 => if x5 ≤ 3 then (if (wrap64 (x1 - x5)) ≥ 0 then ((galleyref02_Long.f x0 (wrap64 (x1 - x5))).bind fun t197 => (if t197 > x5 then (some true) else (galleyref02_Inside.l0 k x0 x1 (wrap64 (x5 + 1))))) else (galleyref02_Inside.l0 k x0 x1 (wrap64 (x5 + 1)))) else (some false)
def galleyref02_Inside.f (k : Nat) (l0 : List Int) (a1 : Int) : Option (Bool) := galleyref02_Inside.l0 k l0 a1 1
set_option maxHeartbeats 8000000 in
set_option maxRecDepth 100000 in
theorem galleyref02_Inside.calls (k : Nat) (A0 : Option Addr) (c0 : Nat) (l0 : List Int) (a1 : Int) (r : Bool) (w : World) (hr0 : Kd.C (Kd.int .u8) w A0 l0.length l0) (hc0 : l0.length ≤ c0) (h : galleyref02_Inside.f k l0 a1 = some r) :
  Calls Tryd.prog 105 #[.slice A0 l0.length c0, .int .i64 a1] w fun e w' => e = .returned (.bool r) ∧ Drawn0 w w' := by
 have HR0 := Aside0.mk hr0
 have HC0 := Aside0.mk hc0
 clear hr0 hc0
 have H : (galleyref02_Inside.l0 k l0 a1 1) = some r := h
 clear h
 have H' := Aside0.mk H
 clear H
 go_enter Tryd.func105, Tryd.ntmps105
 go_wp2
 go_loopg [5] k (fun kq v5 w' => ∃ (x5_1 : Int), v5 = .int .i64 x5_1 ∧ Aside0 (galleyref02_Inside.l0 kq l0 a1 x5_1 = some r) ∧ Aside0 (kq ≤ k) ∧ Drawn0 w w')
 case atStart => exact ⟨(1), (by first | rfl | (simp; done) | (simp [*]; done)), H', ⟨Nat.le_refl _⟩, by repeat (first | exact Drawn0.refl _ | apply Drawn0.step)⟩
 case round =>
  clear H'
  try clear c1
  try clear p2
  obtain ⟨x5_1, rfl, HA, HK1, ⟨m1, rfl⟩⟩ := hrel
  cases gk with
  | zero => exact absurd HA.out (by simp [galleyref02_Inside.l0])
  | succ k1 =>
   have H := HA.out
   clear HA
   simp only [galleyref02_Inside.l0] at H
   by_cases c3 : x5_1 ≤ 3
   ·rw [if_pos c3] at H
    have c3b0 : decide (x5_1 ≤ 3) = true := decide_eq_true c3
    clear c3
    by_cases c4 : (wrap64 (a1 - x5_1)) ≥ 0
    ·rw [if_pos c4] at H
     have c4b0 : decide (0 ≤ (wrap64 (a1 - x5_1))) = true := decide_eq_true c4
     clear c4
     replace H := Option.bind_eq_some_iff.mp H
     obtain ⟨t197, A50, H⟩ := H
     replace H : (if t197 > x5_1 then (some true) else (galleyref02_Inside.l0 k1 l0 a1 (wrap64 (x5_1 + 1)))) = some r := H
     have A5 := Aside0.mk A50
     clear A50
     by_cases c6 : t197 > x5_1
     ·rw [if_pos c6] at H
      have c6b0 : decide (x5_1 < t197) = true := decide_eq_true c6
      clear c6
      obtain rfl := Option.some.inj H
      go_wp2_with (first | (go_at_call 106; (with_reducible refine (galleyref02_Long.calls _ _ l0 (wrap64 (a1 - x5_1)) t197 _ ?side1 ?side2 A5.out).mono ?_); (case side1 => repeat (first | exact HR0.out | (with_reducible refine Kd.C_alloc ?_ _) | (with_reducible refine Kd.C_drewN ?_ _) | (with_reducible refine Kd.C_drew ?_))); (case side2 => exact HC0.out); rintro e w' ⟨rfl, ⟨nd, rfl⟩⟩))
      go_ret
      exact ⟨by first | rfl | (simp; done) | (simp [*]; done), by repeat (first | exact Drawn0.refl _ | apply Drawn0.step)⟩
     ·rw [if_neg c6] at H
      have c6b0 : decide (x5_1 < t197) = false := decide_eq_false c6
      clear c6
      have H' := Aside0.mk H
      clear H
      go_wp2_with (first | (go_at_call 106; (with_reducible refine (galleyref02_Long.calls _ _ l0 (wrap64 (a1 - x5_1)) t197 _ ?side1 ?side2 A5.out).mono ?_); (case side1 => repeat (first | exact HR0.out | (with_reducible refine Kd.C_alloc ?_ _) | (with_reducible refine Kd.C_drewN ?_ _) | (with_reducible refine Kd.C_drew ?_))); (case side2 => exact HC0.out); rintro e w' ⟨rfl, ⟨nd, rfl⟩⟩))
      go_roundg k1
      case measure => have := HK1.out; omega
      case rel => exact ⟨(wrap64 (x5_1 + 1)), (by first | rfl | (simp; done) | (simp [*]; done)), H', ⟨by have := HK1.out; omega⟩, by repeat (first | exact Drawn0.refl _ | apply Drawn0.step)⟩
    ·rw [if_neg c4] at H
     have c4b0 : decide (0 ≤ (wrap64 (a1 - x5_1))) = false := decide_eq_false c4
     clear c4
     have H' := Aside0.mk H
     clear H
     go_wp2
     go_roundg k1
     case measure => have := HK1.out; omega
     case rel => exact ⟨(wrap64 (x5_1 + 1)), (by first | rfl | (simp; done) | (simp [*]; done)), H', ⟨by have := HK1.out; omega⟩, by repeat (first | exact Drawn0.refl _ | apply Drawn0.step)⟩
   ·rw [if_neg c3] at H
    have c3b0 : decide (x5_1 ≤ 3) = false := decide_eq_false c3
    clear c3
    obtain rfl := Option.some.inj H
    go_wp2
    go_ret
    exact ⟨by first | rfl | (simp; done) | (simp [*]; done), by repeat (first | exact Drawn0.refl _ | apply Drawn0.step)⟩

end Go.Proofs.YtijbkiajhicooaaDoor.PW

namespace Go.Proofs.YtijbkiajhicooaaDoor.PW
open Go.RowKit Go.Proofs.YtijbkiajhicooaaDoorW.PrintWords Go.Proofs.YtijbkiajhicooaaDoorW.PrintLast Go.Proofs.YtijbkiajhicooaaDoorW.PrintMore
attribute [local go_sem] max2_int min2_int max_two min_two max_three min_three max_four min_four   -- for this text's walks alone
set_option linter.unusedVariables false
set_option linter.unusedSimpArgs false

def galleyref02_Edges.l0 : Nat → List Int → List Int → Int → Option (List Int)
 | 0, _, _, _ => none
 | k + 1, x0, x3, x4 => if x4 ≤ (x0.length : Int) then ((galleyref02_Inside.f k x0 x4).bind fun t198 => (if t198 = true then (galleyref02_Edges.l0 k x0 x3 (wrap64 (x4 + 1))) else (if x3.length < 17592186044416 then (galleyref02_Edges.l0 k x0 (x3 ++ [x4]) (wrap64 (x4 + 1))) else (none)))) else (some x3)
def galleyref02_Edges.f (k : Nat) (l0 : List Int) : Option (List Int) := galleyref02_Edges.l0 k l0 ([] : List Int) 0
set_option maxHeartbeats 8000000 in
set_option maxRecDepth 100000 in
theorem galleyref02_Edges.calls (k : Nat) (A0 : Option Addr) (c0 : Nat) (l0 : List Int) (r : List Int) (w : World) (hr0 : Kd.C (Kd.int .u8) w A0 l0.length l0) (hc0 : l0.length ≤ c0) (h : galleyref02_Edges.f k l0 = some r) :
  Calls Tryd.prog 86 #[.slice A0 l0.length c0] w fun e w' => ∃ v0_ : Value, e = .returned (v0_) ∧ Kd.R (Kd.int .i64) 3 w' w.heap.size (fun _ => True) v0_ r ∧ Below w.heap.size w w' := by
 have HR0 := Aside0.mk hr0
 have HC0 := Aside0.mk hc0
 clear hr0 hc0
 have HB := Aside0.mk (Below.refl w.heap.size w)
 have H : (galleyref02_Edges.l0 k l0 ([] : List Int) 0) = some r := h
 clear h
 have H' := Aside0.mk H
 clear H
 go_enter Tryd.func86, Tryd.ntmps86
 go_wp2
 go_loopg [3, 4] k (fun kq v3 v4 w' => ∃ (x3_1 : List Int) (x4_1 : Int), v4 = .int .i64 x4_1 ∧ Aside0 (galleyref02_Edges.l0 kq l0 x3_1 x4_1 = some r) ∧ Aside0 (kq ≤ k) ∧ Aside0 (Kd.R (Kd.int .i64) 3 w' w.heap.size (fun _ => True) v3 x3_1) ∧ Aside0 (Below w.heap.size w w'))
 case atStart => exact ⟨(([] : List Int)), (0), (by first | rfl | (simp; done) | (simp [*]; done)), H', ⟨Nat.le_refl _⟩, ⟨by first | exact Kd.R_nil _ _ _ _ _ | exact Kd.N_nil _ _ _ _ _ | exact Kd.V_nil _ _ _ _ _ | exact Kd.Q_nil _ _ _ _ _ | exact Kd.S_nil _ _ _ _ _⟩, ⟨by repeat (first | (with_reducible first | exact HB.out | apply below_alloc | apply pw_below_drewN | apply below_drew1) | exact HB.out)⟩⟩
 case round =>
  clear H'
  obtain ⟨x3_1, x4_1, rfl, HA, HK1, HO_3, HB⟩ := hrel
  cases gk with
  | zero => exact absurd HA.out (by simp [galleyref02_Edges.l0])
  | succ k1 =>
   have H := HA.out
   clear HA
   simp only [galleyref02_Edges.l0] at H
   by_cases c2 : x4_1 ≤ (l0.length : Int)
   ·rw [if_pos c2] at H
    have c2b0 : decide (x4_1 ≤ (l0.length : Int)) = true := decide_eq_true c2
    clear c2
    replace H := Option.bind_eq_some_iff.mp H
    obtain ⟨t198, A30, H⟩ := H
    replace H : (if t198 = true then (galleyref02_Edges.l0 k1 l0 x3_1 (wrap64 (x4_1 + 1))) else (if x3_1.length < 17592186044416 then (galleyref02_Edges.l0 k1 l0 (x3_1 ++ [x4_1]) (wrap64 (x4_1 + 1))) else (none))) = some r := H
    have A3 := Aside0.mk A30
    clear A30
    by_cases c4 : t198 = true
    ·subst c4
     have H1 : (galleyref02_Edges.l0 k1 l0 x3_1 (wrap64 (x4_1 + 1))) = some r := by rw [if_pos rfl] at H; exact H
     clear H
     have H := H1
     clear H1
     have H' := Aside0.mk H
     clear H
     go_wp2_with (first | ((with_reducible refine gate_callee (f := 105) rfl ?_); refine goesL_ (some 13) rfl rfl Tryd.func105 (by kernel_rfl) rfl #[.slice A0 l0.length c0, .int .i64 x4_1] rfl (by (try simp only [List.map_toArray, List.map_cons, List.map_nil]); first | done | rfl | (simp only [List.length_drop, List.length_take]; rfl)) ?_; (with_reducible refine (galleyref02_Inside.calls k1 _ _ l0 x4_1 true _ ?side1 ?side2 A3.out).mono ?_); (case side1 => repeat (first | exact (Kd.C_below HR0.out HB.out) | (with_reducible refine Kd.C_alloc ?_ _) | (with_reducible refine Kd.C_drewN ?_ _) | (with_reducible refine Kd.C_drew ?_))); (case side2 => exact HC0.out); rintro e w' ⟨rfl, ⟨nd, rfl⟩⟩; refine ⟨_, rfl, ?_⟩))
     go_roundg k1
     case measure => have := HK1.out; omega
     case rel => exact ⟨(x3_1), (wrap64 (x4_1 + 1)), (by first | rfl | (simp; done) | (simp [*]; done)), H', ⟨by have := HK1.out; omega⟩, ⟨by (with_reducible repeat (first | apply Kd.R_alloc | apply Kd.R_drewN | apply Kd.R_drew)); exact HO_3.out⟩, ⟨by repeat (first | (with_reducible first | exact HB.out | apply below_alloc | apply pw_below_drewN | apply below_drew1) | exact HB.out)⟩⟩
    ·replace c4 := Bool.eq_false_iff.mpr c4
     subst c4
     have H1 : (if x3_1.length < 17592186044416 then (galleyref02_Edges.l0 k1 l0 (x3_1 ++ [x4_1]) (wrap64 (x4_1 + 1))) else (none)) = some r := by rw [if_neg (show ¬ (false = true) by decide)] at H; exact H
     clear H
     have H := H1
     clear H1
     by_cases c5 : x3_1.length < 17592186044416
     ·rw [if_pos c5] at H
      have LMc5 := Aside0.mk c5
      clear c5
      obtain ⟨y199, hy199⟩ : ∃ y_ : List Int, y_ = (x3_1 ++ [x4_1]) := ⟨_, rfl⟩
      replace H : (galleyref02_Edges.l0 k1 l0 y199 (wrap64 (x4_1 + 1))) = some r := by first | (rw [hy199]; with_reducible exact H) | (have H2_ := (Option.bind_some _ _).symm.trans H; rw [hy199]; with_reducible exact H2_) | (have H2_ := (Option.bind_some _ _).symm.trans H; with_reducible exact H2_) | with_reducible exact H | (rw [hy199]; exact H) | exact H
      have Ny199 := Aside0.mk hy199
      clear hy199
      have H' := Aside0.mk H
      clear H
      go_wp2_with (first | ((with_reducible refine gate_callee (f := 105) rfl ?_); refine goesL_ (some 13) rfl rfl Tryd.func105 (by kernel_rfl) rfl #[.slice A0 l0.length c0, .int .i64 x4_1] rfl (by (try simp only [List.map_toArray, List.map_cons, List.map_nil]); first | done | rfl | (simp only [List.length_drop, List.length_take]; rfl)) ?_; (with_reducible refine (galleyref02_Inside.calls k1 _ _ l0 x4_1 false _ ?side1 ?side2 A3.out).mono ?_); (case side1 => repeat (first | exact (Kd.C_below HR0.out HB.out) | (with_reducible refine Kd.C_alloc ?_ _) | (with_reducible refine Kd.C_drewN ?_ _) | (with_reducible refine Kd.C_drew ?_))); (case side2 => exact HC0.out); rintro e w' ⟨rfl, ⟨nd, rfl⟩⟩; refine ⟨_, rfl, ?_⟩) | ((with_reducible refine gate_builtin (b := .append) (xs := #[.tmp 15, .tmp 17]) rfl ?_); at_builtin; refine Kd.R_append (Kd.int .i64) (w0 := w) w.heap.size rfl (.tmp 15) (.tmp 17) 69 3 (.int .i64 0) 8 rfl Tryd.underlying69 info3 rfl (by decide) (by omega) u3 x3_1 x4_1 [.int .i64 x4_1] (fun _ => True) (fun _ => False) rfl rfl ?aP (fun _ hk => hk.elim) ?aF ?aO ?aB ?aS ?aL ?_; (case aP => exact rfl); (case aB => exact (by repeat (first | (with_reducible first | exact HB.out | apply below_alloc | apply pw_below_drewN | apply below_drew1) | exact HB.out))); (case aF => exact (fun _ _ => trivial)); (case aO => exact (by (with_reducible repeat (first | apply Kd.R_alloc | apply Kd.R_drewN | apply Kd.R_drew)); exact HO_3.out)); (case aS => exact (below_size (by repeat (first | (with_reducible first | exact HB.out | apply below_alloc | apply pw_below_drewN | apply below_drew1) | exact HB.out)))); (case aL => have := LMc5.out; omega); intro v200 w6 ho hb hg hat; rw [← Ny199.out] at ho; have n0_ := Aside0.mk (hb); have n1_ := Aside0.mk (ho); clear HB; clear HO_3; have HB := n0_; have HO201 := n1_; clear n0_ n1_; clear ho hb hg hat))
      go_roundg k1
      case measure => have := HK1.out; omega
      case rel => exact ⟨(y199), (wrap64 (x4_1 + 1)), (by first | rfl | (simp; done) | (simp [*]; done)), H', ⟨by have := HK1.out; omega⟩, ⟨by (with_reducible repeat (first | apply Kd.R_alloc | apply Kd.R_drewN | apply Kd.R_drew)); exact HO201.out⟩, ⟨by repeat (first | (with_reducible first | exact HB.out | apply below_alloc | apply pw_below_drewN | apply below_drew1) | exact HB.out)⟩⟩
     ·rw [if_neg c5] at H
      exact absurd H (by simp)
   ·rw [if_neg c2] at H
    have c2b0 : decide (x4_1 ≤ (l0.length : Int)) = false := decide_eq_false c2
    clear c2
    obtain rfl := Option.some.inj H
    go_wp2
    go_ret
    exact ⟨_, by first | rfl | (simp [errW_none, errW_some] <;> rfl) | (simp [*, errW_none, errW_some] <;> rfl), by (with_reducible repeat (first | apply Kd.R_alloc | apply Kd.R_drewN | apply Kd.R_drew)); exact HO_3.out, by repeat (first | (with_reducible first | exact HB.out | apply below_alloc | apply pw_below_drewN | apply below_drew1) | exact HB.out)⟩

end Go.Proofs.YtijbkiajhicooaaDoor.PW

namespace Go.Proofs.YtijbkiajhicooaaDoor.PW
open Go.RowKit Go.Proofs.YtijbkiajhicooaaDoorW.PrintWords Go.Proofs.YtijbkiajhicooaaDoorW.PrintLast Go.Proofs.YtijbkiajhicooaaDoorW.PrintMore
attribute [local go_sem] max2_int min2_int max_two min_two max_three min_three max_four min_four   -- for this text's walks alone
set_option linter.unusedVariables false
set_option linter.unusedSimpArgs false

mutual
def galleyref02_Of.j0 : Nat → List Int → Int → Int → Int → Option (Int × Int × Bool)
 | 0, _, _, _, _ => none
 | k + 1, x0, x1, x5, x6 => galleyref02_Of.l0 k x0 x1 x5 x6 1
def galleyref02_Of.l0 : Nat → List Int → Int → Int → Int → Int → Option (Int × Int × Bool)
 | 0, _, _, _, _, _ => none
 | k + 1, x0, x1, x5, x6, x7 => if x7 < x5 then (if 0 ≤ (wrap64 (x1 + x7)) then (if (wrap64 (x1 + x7)) < (x0.length : Int) then (galleyref02_Of.l0 k x0 x1 x5 (wrap64 ((wrap64 (x6 * 64)) + (Int.tmod (wrap64 (rd x0 (wrap64 (x1 + x7)))) 64))) (wrap64 (x7 + 1))) else (none)) else (none)) else (some (wrap32 (x6), x5, true))
end
def galleyref02_Of.f (k : Nat) (l0 : List Int) (a1 : Int) : Option (Int × Int × Bool) := (galleyref02_Long.f l0 a1).bind fun t203 => (if t203 = 0 then (some (65533, 1, false)) else (if 0 ≤ a1 then (if a1 < (l0.length : Int) then (if t203 = 2 then (galleyref02_Of.j0 k l0 a1 t203 (Int.tmod (wrap64 (rd l0 a1)) 32)) else (if t203 = 3 then (galleyref02_Of.j0 k l0 a1 t203 (Int.tmod (wrap64 (rd l0 a1)) 16)) else (if t203 = 4 then (galleyref02_Of.j0 k l0 a1 t203 (Int.tmod (wrap64 (rd l0 a1)) 8)) else (galleyref02_Of.j0 k l0 a1 t203 (wrap64 (rd l0 a1)))))) else (none)) else (none)))
set_option maxHeartbeats 8000000 in
set_option maxRecDepth 100000 in
theorem galleyref02_Of.calls (k : Nat) (A0 : Option Addr) (c0 : Nat) (l0 : List Int) (a1 : Int) (r1 : Int) (r2 : Int) (r3 : Bool) (w : World) (hr0 : Kd.C (Kd.int .u8) w A0 l0.length l0) (hc0 : l0.length ≤ c0) (h : galleyref02_Of.f k l0 a1 = some (r1, r2, r3)) :
  Calls Tryd.prog 87 #[.slice A0 l0.length c0, .int .i64 a1] w fun e w' => e = .returned (.agg #[.int .i32 r1, .int .i64 r2, .bool r3]) ∧ Below w.heap.size w w' := by
 have hu23 := Tryd.underlying23
 have HR0 := Aside0.mk hr0
 have HC0 := Aside0.mk hc0
 clear hr0 hc0
 have HB := Aside0.mk (Below.refl w.heap.size w)
 have H : ((galleyref02_Long.f l0 a1).bind fun t203 => (if t203 = 0 then (some (65533, 1, false)) else (if 0 ≤ a1 then (if a1 < (l0.length : Int) then (if t203 = 2 then (galleyref02_Of.j0 k l0 a1 t203 (Int.tmod (wrap64 (rd l0 a1)) 32)) else (if t203 = 3 then (galleyref02_Of.j0 k l0 a1 t203 (Int.tmod (wrap64 (rd l0 a1)) 16)) else (if t203 = 4 then (galleyref02_Of.j0 k l0 a1 t203 (Int.tmod (wrap64 (rd l0 a1)) 8)) else (galleyref02_Of.j0 k l0 a1 t203 (wrap64 (rd l0 a1)))))) else (none)) else (none)))) = some (r1, r2, r3) := h
 clear h
 replace H := Option.bind_eq_some_iff.mp H
 obtain ⟨t203, A30, H⟩ := H
 replace H : (if t203 = 0 then (some (65533, 1, false)) else (if 0 ≤ a1 then (if a1 < (l0.length : Int) then (if t203 = 2 then (galleyref02_Of.j0 k l0 a1 t203 (Int.tmod (wrap64 (rd l0 a1)) 32)) else (if t203 = 3 then (galleyref02_Of.j0 k l0 a1 t203 (Int.tmod (wrap64 (rd l0 a1)) 16)) else (if t203 = 4 then (galleyref02_Of.j0 k l0 a1 t203 (Int.tmod (wrap64 (rd l0 a1)) 8)) else (galleyref02_Of.j0 k l0 a1 t203 (wrap64 (rd l0 a1)))))) else (none)) else (none))) = some (r1, r2, r3) := H
 have A3 := Aside0.mk A30
 clear A30
 by_cases c4 : t203 = 0
 ·rw [if_pos c4] at H
  have c4b0 : (t203 == 0) = true := beq_iff_eq.mpr c4
  have c4b1 : (t203 != 0) = false := bne_eq_false_iff_eq.mpr c4
  clear c4
  simp only [Option.some.injEq, Prod.mk.injEq] at H
  obtain ⟨rfl, rfl, rfl⟩ := H
  go_enter Tryd.func87, Tryd.ntmps87
  go_wp2_with (first | ((with_reducible refine gate_dst (N := 4) rfl ?_); refine box_event ?hg (N := 4) ?hd (cs := #[.int .i32 0, .int .i64 0, .bool false]) (t := 23) ?hr ?_; (case hd => rfl); (case hg => rfl); (case hr => first | (go_simp; done) | (go_simp; rfl)); intro gb202 hg w5 hbox hb; have n0_ := Aside0.mk (below_step (by repeat (first | (with_reducible first | exact HB.out | apply below_alloc | apply pw_below_drewN | apply below_drew1) | exact HB.out)) hb); have n1_ := Aside0.mk (hbox); have n2_ := Aside0.mk ((by rw [hg]; exact (below_size (by repeat (first | (with_reducible first | exact HB.out | apply below_alloc | apply pw_below_drewN | apply below_drew1) | exact HB.out))) : w.heap.size ≤ gb202)); have n3_ := Aside0.mk ((by rw [hg]; exact (below_size (by repeat (first | (with_reducible first | exact HB.out | apply below_alloc | apply pw_below_drewN | apply below_drew1) | exact HB.out))) : w.heap.size ≤ gb202)); clear HB; have HB := n0_; have BK202 := n1_; have GW202 := n2_; have GE202 := n3_; clear n0_ n1_ n2_ n3_; clear hb hbox hg) | ((with_reducible refine gate_callee (f := 106) rfl ?_); refine goesL_ (some 10) rfl rfl Tryd.func106 (by kernel_rfl) rfl #[.slice A0 l0.length c0, .int .i64 a1] rfl (by (try simp only [List.map_toArray, List.map_cons, List.map_nil]); first | done | rfl | (simp only [List.length_drop, List.length_take]; rfl)) ?_; (with_reducible refine (galleyref02_Long.calls _ _ l0 a1 t203 _ ?side1 ?side2 A3.out).mono ?_); (case side1 => repeat (first | exact (Kd.C_below HR0.out HB.out) | (with_reducible refine Kd.C_alloc ?_ _) | (with_reducible refine Kd.C_drewN ?_ _) | (with_reducible refine Kd.C_drew ?_))); (case side2 => exact HC0.out); rintro e w' ⟨rfl, ⟨nd, rfl⟩⟩; refine ⟨_, rfl, ?_⟩; (try (rw [drewN_self w5]; generalize hq_ : World.drewN w5 _ = w5; have n0_ : Aside0 (w5.heap[gb202]? = some (.cells #[.int .i32 0, .int .i64 0, .bool false] 23 (0, 0))) := ⟨by rw [← hq_]; exact (by (with_reducible repeat (first | refine blk_drewN ?_ _ | refine blk_drew ?_ | refine blk_alloc ?_ _)); exact BK202.out)⟩; have n1_ : Aside0 (Below w.heap.size w w5) := ⟨by rw [← hq_]; exact (by repeat (first | (with_reducible first | exact HB.out | apply below_alloc | apply pw_below_drewN | apply below_drew1 | refine below_set ?_ GE202.out) | exact HB.out))⟩; clear BK202 HB hq_; have BK202 := n0_; have HB := n1_; clear n0_ n1_)); have hcz6_0 : w5.cell? ⟨gb202, 0, none⟩ = some (.int .i32 0) := (blk_cell BK202.out 0).trans rfl; have hcz6_1 : w5.cell? ⟨gb202, 1, none⟩ = some (.int .i64 0) := (blk_cell BK202.out 1).trans rfl; have hcz6_2 : w5.cell? ⟨gb202, 2, none⟩ = some (.bool false) := (blk_cell BK202.out 2).trans rfl; have hfz6_0 := blk_frozen BK202.out 0; have hfz6_1 := blk_frozen BK202.out 1; have hfz6_2 := blk_frozen BK202.out 2))
  refine bodyPost_ret (results_cell_row rfl _ _ gb202 23 #[.int .i32 65533, .int .i64 1, .bool false] (0, 0) _ rfl (by (with_reducible repeat (first | refine blk_drewN ?_ _ | refine blk_drew ?_ | refine blk_alloc ?_ _)); refine blk_put (cs := #[.int .i32 65533, .int .i64 1, .bool false]) ?_ 2 _ rfl; (with_reducible repeat (first | refine blk_drewN ?_ _ | refine blk_drew ?_ | refine blk_alloc ?_ _)); refine blk_put (cs := #[.int .i32 65533, .int .i64 0, .bool false]) ?_ 1 _ rfl; (with_reducible repeat (first | refine blk_drewN ?_ _ | refine blk_drew ?_ | refine blk_alloc ?_ _)); refine blk_put (cs := #[.int .i32 0, .int .i64 0, .bool false]) ?_ 0 _ rfl; (with_reducible repeat (first | refine blk_drewN ?_ _ | refine blk_drew ?_ | refine blk_alloc ?_ _)); exact BK202.out) Tryd.underlying23 rfl (by kernel_rfl)) rfl ?_
  exact ⟨by first | rfl | (simp [errW_none, errW_some] <;> rfl) | (simp [*, errW_none, errW_some] <;> rfl), by repeat (first | (with_reducible first | exact HB.out | apply below_alloc | apply pw_below_drewN | apply below_drew1 | refine below_set ?_ GE202.out) | exact HB.out)⟩
 ·rw [if_neg c4] at H
  have c4b0 : (t203 == 0) = false := beq_eq_false_iff_ne.mpr c4
  have c4b1 : (t203 != 0) = true := bne_iff_ne.mpr c4
  by_cases c7 : 0 ≤ a1
  ·rw [if_pos c7] at H
   have c7b0 : decide (0 ≤ a1) = true := decide_eq_true c7
   clear c7
   by_cases c8 : a1 < (l0.length : Int)
   ·rw [if_pos c8] at H
    have c8b0 : decide (a1 < (l0.length : Int)) = true := decide_eq_true c8
    clear c8
    have HC9 := Aside0.mk H
    clear H
    go_enter Tryd.func87, Tryd.ntmps87
    go_upto_block 0 with (first | ((with_reducible refine gate_dst (N := 4) rfl ?_); refine box_event ?hg (N := 4) ?hd (cs := #[.int .i32 0, .int .i64 0, .bool false]) (t := 23) ?hr ?_; (case hd => rfl); (case hg => rfl); (case hr => first | (go_simp; done) | (go_simp; rfl)); intro gb202 hg w10 hbox hb; have n0_ := Aside0.mk (below_step (by repeat (first | (with_reducible first | exact HB.out | apply below_alloc | apply pw_below_drewN | apply below_drew1) | exact HB.out)) hb); have n1_ := Aside0.mk (hbox); have n2_ := Aside0.mk ((by rw [hg]; exact (below_size (by repeat (first | (with_reducible first | exact HB.out | apply below_alloc | apply pw_below_drewN | apply below_drew1) | exact HB.out))) : w.heap.size ≤ gb202)); have n3_ := Aside0.mk ((by rw [hg]; exact (below_size (by repeat (first | (with_reducible first | exact HB.out | apply below_alloc | apply pw_below_drewN | apply below_drew1) | exact HB.out))) : w.heap.size ≤ gb202)); clear HB; have HB := n0_; have BK202 := n1_; have GW202 := n2_; have GE202 := n3_; clear n0_ n1_ n2_ n3_; clear hb hbox hg) | ((with_reducible refine gate_callee (f := 106) rfl ?_); refine goesL_ (some 10) rfl rfl Tryd.func106 (by kernel_rfl) rfl #[.slice A0 l0.length c0, .int .i64 a1] rfl (by (try simp only [List.map_toArray, List.map_cons, List.map_nil]); first | done | rfl | (simp only [List.length_drop, List.length_take]; rfl)) ?_; (with_reducible refine (galleyref02_Long.calls _ _ l0 a1 t203 _ ?side1 ?side2 A3.out).mono ?_); (case side1 => repeat (first | exact (Kd.C_below HR0.out HB.out) | (with_reducible refine Kd.C_alloc ?_ _) | (with_reducible refine Kd.C_drewN ?_ _) | (with_reducible refine Kd.C_drew ?_))); (case side2 => exact HC0.out); rintro e w' ⟨rfl, ⟨nd, rfl⟩⟩; refine ⟨_, rfl, ?_⟩; have p204 : 0 ≤ (a1 : Int) := of_decide_eq_true (by first | (with_reducible assumption) | assumption); have q204 : a1 < (l0.length : Int) := of_decide_eq_true (by first | (with_reducible assumption) | assumption); obtain ⟨ad204, e204, hx204_0⟩ := Kd.at_int HR0.out a1 p204 q204; cases e204; replace hx204_0 := (HB.out.cell (World.block_lt_of_cell? w _ hx204_0)).trans hx204_0; replace p204 := eq_true p204; replace q204 := eq_true q204))
    (try simp only [Act.put, List.setIfInBounds_toArray, List.set_cons_zero, List.set_cons_succ])
    go_cut [6] (fun v6 wc => ∃ (kq : Nat) (x6_8 : Int), v6 = .int .i64 x6_8 ∧ Aside0 (galleyref02_Of.j0 kq l0 a1 t203 x6_8 = some (r1, r2, r3)) ∧ Aside0 (kq ≤ k) ∧ Aside0 (wc.heap[gb202]? = some (.cells #[.int .i32 0, .int .i64 0, .bool false] 23 (0, 0))) ∧ Aside0 (Below w.heap.size w wc))
    case first =>
     have H := HC9.out
     clear HC9
     by_cases c11 : t203 = 2
     ·rw [if_pos c11] at H
      have c11b0 : (t203 == 2) = true := beq_iff_eq.mpr c11
      have c11b1 : (t203 != 2) = false := bne_eq_false_iff_eq.mpr c11
      clear c11
      (first | rw [c11b0] | (simp only [i64_w, i32_w]; rw [c11b0]) | skip)
      have H' := Aside0.mk H
      clear H
      go_wp2
      go_meet
      case rel => exact ⟨_, (Int.tmod (wrap64 (rd l0 a1)) 32), (by first | rfl | (simp; done) | (simp [*]; done)), H', ⟨by first | omega | exact Nat.le_refl _⟩, ⟨by (with_reducible repeat (first | refine blk_drewN ?_ _ | refine blk_drew ?_ | refine blk_alloc ?_ _)); exact BK202.out⟩, ⟨by repeat (first | (with_reducible first | exact HB.out | apply below_alloc | apply pw_below_drewN | apply below_drew1 | refine below_set ?_ GE202.out) | exact HB.out)⟩⟩
     ·rw [if_neg c11] at H
      have c11b0 : (t203 == 2) = false := beq_eq_false_iff_ne.mpr c11
      have c11b1 : (t203 != 2) = true := bne_iff_ne.mpr c11
      (first | rw [c11b0] | (simp only [i64_w, i32_w]; rw [c11b0]) | skip)
      by_cases c12 : t203 = 3
      ·rw [if_pos c12] at H
       have c12b0 : (t203 == 3) = true := beq_iff_eq.mpr c12
       have c12b1 : (t203 != 3) = false := bne_eq_false_iff_eq.mpr c12
       clear c12
       have H' := Aside0.mk H
       clear H
       go_wp2
       go_meet
       case rel => exact ⟨_, (Int.tmod (wrap64 (rd l0 a1)) 16), (by first | rfl | (simp; done) | (simp [*]; done)), H', ⟨by first | omega | exact Nat.le_refl _⟩, ⟨by (with_reducible repeat (first | refine blk_drewN ?_ _ | refine blk_drew ?_ | refine blk_alloc ?_ _)); exact BK202.out⟩, ⟨by repeat (first | (with_reducible first | exact HB.out | apply below_alloc | apply pw_below_drewN | apply below_drew1 | refine below_set ?_ GE202.out) | exact HB.out)⟩⟩
      ·rw [if_neg c12] at H
       have c12b0 : (t203 == 3) = false := beq_eq_false_iff_ne.mpr c12
       have c12b1 : (t203 != 3) = true := bne_iff_ne.mpr c12
       by_cases c13 : t203 = 4
       ·rw [if_pos c13] at H
        have c13b0 : (t203 == 4) = true := beq_iff_eq.mpr c13
        have c13b1 : (t203 != 4) = false := bne_eq_false_iff_eq.mpr c13
        clear c13
        have H' := Aside0.mk H
        clear H
        go_wp2
        go_meet
        case rel => exact ⟨_, (Int.tmod (wrap64 (rd l0 a1)) 8), (by first | rfl | (simp; done) | (simp [*]; done)), H', ⟨by first | omega | exact Nat.le_refl _⟩, ⟨by (with_reducible repeat (first | refine blk_drewN ?_ _ | refine blk_drew ?_ | refine blk_alloc ?_ _)); exact BK202.out⟩, ⟨by repeat (first | (with_reducible first | exact HB.out | apply below_alloc | apply pw_below_drewN | apply below_drew1 | refine below_set ?_ GE202.out) | exact HB.out)⟩⟩
       ·rw [if_neg c13] at H
        have c13b0 : (t203 == 4) = false := beq_eq_false_iff_ne.mpr c13
        have c13b1 : (t203 != 4) = true := bne_iff_ne.mpr c13
        have H' := Aside0.mk H
        clear H
        go_wp2
        go_meet
        case rel => exact ⟨_, (wrap64 (rd l0 a1)), (by first | rfl | (simp; done) | (simp [*]; done)), H', ⟨by first | omega | exact Nat.le_refl _⟩, ⟨by (with_reducible repeat (first | refine blk_drewN ?_ _ | refine blk_drew ?_ | refine blk_alloc ?_ _)); exact BK202.out⟩, ⟨by repeat (first | (with_reducible first | exact HB.out | apply below_alloc | apply pw_below_drewN | apply below_drew1 | refine below_set ?_ GE202.out) | exact HB.out)⟩⟩
    case rest =>
     clear HC9
     try clear c1
     try clear p2
     try clear q2
     try clear hx2
     try clear c4
     try clear c4b0
     try clear c4b1
     try clear p6
     try clear c7
     try clear c7b0
     try clear c8
     try clear c8b0
     try clear c10
     try clear c11
     try clear c11b0
     try clear c11b1
     try clear c12
     try clear c12b0
     try clear c12b1
     try clear c13
     try clear c13b0
     try clear c13b1
     try clear hcz6_0
     try clear hcz6_1
     try clear hcz6_2
     try clear hfz6_0
     try clear hfz6_1
     try clear hfz6_2
     try clear hx204_0
     try clear p204
     try clear q204
     obtain ⟨kq, x6_8, rfl, HA, HJ8, BK202, HB⟩ := hcut
     cases kq with
     | zero => exact absurd HA.out (by simp [galleyref02_Of.j0])
     | succ kj8 =>
      have H := HA.out
      clear HA
      simp only [galleyref02_Of.j0] at H
      have H' := Aside0.mk H
      clear H
      go_wp2
      go_loopg [6, 7] kj8 (fun kq v6 v7 w' => ∃ (x6_2 : Int) (x7_2 : Int), v6 = .int .i64 x6_2 ∧ v7 = .int .i64 x7_2 ∧ Aside0 (galleyref02_Of.l0 kq l0 a1 t203 x6_2 x7_2 = some (r1, r2, r3)) ∧ Aside0 (kq ≤ kj8) ∧ Aside0 (w'.heap[gb202]? = some (.cells #[.int .i32 0, .int .i64 0, .bool false] 23 (0, 0))) ∧ Aside0 (Below w.heap.size w w'))
      case atStart => exact ⟨(x6_8), (1), (by first | rfl | (simp; done) | (simp [*]; done)), (by first | rfl | (simp; done) | (simp [*]; done)), H', ⟨Nat.le_refl _⟩, ⟨by (with_reducible repeat (first | refine blk_drewN ?_ _ | refine blk_drew ?_ | refine blk_alloc ?_ _)); exact BK202.out⟩, ⟨by repeat (first | (with_reducible first | exact HB.out | apply below_alloc | apply pw_below_drewN | apply below_drew1 | refine below_set ?_ GE202.out) | exact HB.out)⟩⟩
      case round =>
       clear H'
       try clear c1
       try clear p2
       try clear q2
       try clear hx2
       try clear c4
       try clear c4b0
       try clear c4b1
       try clear p6
       try clear c7
       try clear c7b0
       try clear c8
       try clear c8b0
       try clear c10
       try clear c11
       try clear c11b0
       try clear c11b1
       try clear c12
       try clear c12b0
       try clear c12b1
       try clear c13
       try clear c13b0
       try clear c13b1
       try clear hcz6_0
       try clear hcz6_1
       try clear hcz6_2
       try clear hfz6_0
       try clear hfz6_1
       try clear hfz6_2
       try clear hx204_0
       try clear p2
       try clear p204
       try clear p6
       try clear q2
       try clear q204
       obtain ⟨x6_2, x7_2, rfl, rfl, HA, HK2, BK202, HB⟩ := hrel
       cases gk with
       | zero => exact absurd HA.out (by simp [galleyref02_Of.l0])
       | succ k2 =>
        have H := HA.out
        clear HA
        simp only [galleyref02_Of.l0] at H
        by_cases c14 : x7_2 < t203
        ·rw [if_pos c14] at H
         have c14b0 : decide (x7_2 < t203) = true := decide_eq_true c14
         clear c14
         obtain ⟨ji15, hji15⟩ : ∃ j_ : Int, (wrap64 (a1 + x7_2)) = j_ := ⟨_, rfl⟩
         replace H : (if 0 ≤ (ji15) then (if (ji15) < (l0.length : Int) then (galleyref02_Of.l0 k2 l0 a1 t203 (wrap64 ((wrap64 (x6_2 * 64)) + (Int.tmod (wrap64 (rd l0 (ji15))) 64))) (wrap64 (x7_2 + 1))) else (none)) else (none)) = some (r1, r2, r3) := by first | (rw [hji15] at H; exact H) | (simp only [hji15] at H ⊢; exact H)
         have hji15w : (IntKind.i64.wrap (a1 + x7_2)) = ji15 := (i64_w _).trans hji15
         by_cases c16 : 0 ≤ (ji15)
         ·rw [if_pos c16] at H
          have c16b0 : decide (0 ≤ (ji15)) = true := decide_eq_true c16
          clear c16
          by_cases c17 : (ji15) < (l0.length : Int)
          ·rw [if_pos c17] at H
           have c17b0 : decide ((ji15) < (l0.length : Int)) = true := decide_eq_true c17
           clear c17
           have H' := Aside0.mk H
           clear H
           have p205 : 0 ≤ ((ji15) : Int) := of_decide_eq_true (by first | (with_reducible assumption) | assumption)
           have q205 : (ji15) < (l0.length : Int) := of_decide_eq_true (by first | (with_reducible assumption) | assumption)
           obtain ⟨ad205, e205, hx205_0⟩ := Kd.at_int HR0.out (ji15) p205 q205
           obtain rfl : ad204 = ad205 := (by injection e205)
           replace hx205_0 := (HB.out.cell (World.block_lt_of_cell? w _ hx205_0)).trans hx205_0
           replace p205 := eq_true p205
           replace q205 := eq_true q205
           go_wp2
           go_roundg k2
           case measure => have := HJ8.out; have := HK2.out; omega
           case rel => exact ⟨(wrap64 ((wrap64 (x6_2 * 64)) + (Int.tmod (wrap64 (rd l0 (ji15))) 64))), (wrap64 (x7_2 + 1)), (by first | rfl | (simp; done) | (simp only [← hji15] <;> (first | rfl | simp)) | (simp [*]; done)), (by first | rfl | (simp; done) | (simp [*]; done)), H', ⟨by have := HJ8.out; have := HK2.out; omega⟩, ⟨by (with_reducible repeat (first | refine blk_drewN ?_ _ | refine blk_drew ?_ | refine blk_alloc ?_ _)); exact BK202.out⟩, ⟨by repeat (first | (with_reducible first | exact HB.out | apply below_alloc | apply pw_below_drewN | apply below_drew1 | refine below_set ?_ GE202.out) | exact HB.out)⟩⟩
          ·rw [if_neg c17] at H
           exact absurd H (by simp)
         ·rw [if_neg c16] at H
          exact absurd H (by simp)
        ·rw [if_neg c14] at H
         have c14b0 : decide (x7_2 < t203) = false := decide_eq_false c14
         clear c14
         simp only [Option.some.injEq, Prod.mk.injEq] at H
         obtain ⟨rfl, rfl, rfl⟩ := H
         have hcz18_0 : wr.cell? ⟨gb202, 0, none⟩ = some (.int .i32 0) := (blk_cell BK202.out 0).trans rfl
         have hcz18_1 : wr.cell? ⟨gb202, 1, none⟩ = some (.int .i64 0) := (blk_cell BK202.out 1).trans rfl
         have hcz18_2 : wr.cell? ⟨gb202, 2, none⟩ = some (.bool false) := (blk_cell BK202.out 2).trans rfl
         have hfz18_0 := blk_frozen BK202.out 0
         have hfz18_1 := blk_frozen BK202.out 1
         have hfz18_2 := blk_frozen BK202.out 2
         go_wp2
         refine bodyPost_ret (results_cell_row rfl _ _ gb202 23 #[.int .i32 (wrap32 (x6_2)), .int .i64 t203, .bool true] (0, 0) _ rfl (by (with_reducible repeat (first | refine blk_drewN ?_ _ | refine blk_drew ?_ | refine blk_alloc ?_ _)); refine blk_put (cs := #[.int .i32 (wrap32 (x6_2)), .int .i64 t203, .bool false]) ?_ 2 _ rfl; (with_reducible repeat (first | refine blk_drewN ?_ _ | refine blk_drew ?_ | refine blk_alloc ?_ _)); refine blk_put (cs := #[.int .i32 (wrap32 (x6_2)), .int .i64 0, .bool false]) ?_ 1 _ rfl; (with_reducible repeat (first | refine blk_drewN ?_ _ | refine blk_drew ?_ | refine blk_alloc ?_ _)); refine blk_put (cs := #[.int .i32 0, .int .i64 0, .bool false]) ?_ 0 _ rfl; (with_reducible repeat (first | refine blk_drewN ?_ _ | refine blk_drew ?_ | refine blk_alloc ?_ _)); exact BK202.out) Tryd.underlying23 rfl (by kernel_rfl)) rfl ?_
         exact ⟨by first | rfl | (simp [errW_none, errW_some] <;> rfl) | (simp [*, errW_none, errW_some] <;> rfl), by repeat (first | (with_reducible first | exact HB.out | apply below_alloc | apply pw_below_drewN | apply below_drew1 | refine below_set ?_ GE202.out) | exact HB.out)⟩
   ·rw [if_neg c8] at H
    exact absurd H (by simp)
  ·rw [if_neg c7] at H
   exact absurd H (by simp)

end Go.Proofs.YtijbkiajhicooaaDoor.PW

namespace Go.Proofs.YtijbkiajhicooaaDoor.PW
open Go.RowKit Go.Proofs.YtijbkiajhicooaaDoorW.PrintWords Go.Proofs.YtijbkiajhicooaaDoorW.PrintLast Go.Proofs.YtijbkiajhicooaaDoorW.PrintMore
attribute [local go_sem] max2_int min2_int max_two min_two max_three min_three max_four min_four   -- for this text's walks alone
set_option linter.unusedVariables false
set_option linter.unusedSimpArgs false

def galleyref02_Steps.l0 : Nat → List Int → List (S23) → List Int → Int → Option ((List (S23)))
 | 0, _, _, _, _ => none
 | k + 1, x0, x3, x4, x5 => if (wrap64 (x5 + 1)) < (x4.length : Int) then (if 0 ≤ x5 then (if x5 < (x4.length : Int) then ((galleyref02_Of.f k x0 (rd x4 x5)).bind fun bt210 => (if x3.length < 5864062014805 then (galleyref02_Steps.l0 k x0 (x3 ++ [(⟨bt210.1, bt210.2.1, bt210.2.2⟩ : S23)]) x4 (wrap64 (x5 + 1))) else (none))) else (none)) else (none)) else (some x3)
def galleyref02_Steps.f (k : Nat) (l0 : List Int) : Option ((List (S23))) := (galleyref02_Edges.f k l0).bind fun t206 => (galleyref02_Steps.l0 k l0 ([] : List (S23)) t206 0)
set_option maxHeartbeats 8000000 in
set_option maxRecDepth 100000 in
theorem galleyref02_Steps.calls (k : Nat) (A0 : Option Addr) (c0 : Nat) (l0 : List Int) (r : List (S23)) (w : World) (hr0 : Kd.C (Kd.int .u8) w A0 l0.length l0) (hc0 : l0.length ≤ c0) (h : galleyref02_Steps.f k l0 = some r) :
  Calls Tryd.prog 74 #[.slice A0 l0.length c0] w fun e w' => ∃ v0_ : Value, e = .returned (v0_) ∧ Kd.R k23 23 w' w.heap.size (fun _ => True) v0_ r ∧ Below w.heap.size w w' := by
 have HR0 := Aside0.mk hr0
 have HC0 := Aside0.mk hc0
 clear hr0 hc0
 have HB := Aside0.mk (Below.refl w.heap.size w)
 have H : ((galleyref02_Edges.f k l0).bind fun t206 => (galleyref02_Steps.l0 k l0 ([] : List (S23)) t206 0)) = some r := h
 clear h
 replace H := Option.bind_eq_some_iff.mp H
 obtain ⟨t206, A20, H⟩ := H
 replace H : (galleyref02_Steps.l0 k l0 ([] : List (S23)) t206 0) = some r := H
 have A2 := Aside0.mk A20
 clear A20
 have H' := Aside0.mk H
 clear H
 go_enter Tryd.func74, Tryd.ntmps74
 go_wp2_with (first | ((with_reducible refine gate_callee (f := 86) rfl ?_); refine goesL_ (some 7) rfl rfl Tryd.func86 (by kernel_rfl) rfl #[.slice A0 l0.length c0] rfl (by (try simp only [List.map_toArray, List.map_cons, List.map_nil]); first | done | rfl | (simp only [List.length_drop, List.length_take]; rfl)) ?_; (with_reducible refine (galleyref02_Edges.calls k _ _ l0 t206 _ ?side1 ?side2 A2.out).mono ?_); (case side1 => repeat (first | exact HR0.out | (with_reducible refine Kd.C_alloc ?_ _) | (with_reducible refine Kd.C_drewN ?_ _) | (with_reducible refine Kd.C_drew ?_))); (case side2 => exact HC0.out); rintro e w3 ⟨v207, rfl, ho0, hb⟩; refine ⟨_, rfl, ?_⟩; have n0_ := Aside0.mk (Kd.R_lower ho0 (below_size (by repeat (first | (with_reducible first | exact HB.out | apply below_alloc | apply pw_below_drewN | apply below_drew1) | exact HB.out)))); have n1_ := Aside0.mk (below_step (by repeat (first | (with_reducible first | exact HB.out | apply below_alloc | apply pw_below_drewN | apply below_drew1) | exact HB.out)) hb); clear HB; have HO208 := n0_; have HB := n1_; clear n0_ n1_; (try clear hb); (try clear hb2); (try clear hk); (try clear hi); (try clear ho0)))
 go_loopg [3, 5] k (fun kq v3 v5 w' => ∃ (x3_1 : List (S23)) (x5_1 : Int), v5 = .int .i64 x5_1 ∧ Aside0 (galleyref02_Steps.l0 kq l0 x3_1 t206 x5_1 = some r) ∧ Aside0 (kq ≤ k) ∧ Aside0 (Kd.R k23 23 w' w.heap.size (fun _ => True) v3 x3_1) ∧ Aside0 (Kd.R (Kd.int .i64) 3 w' w.heap.size (fun _ => True) v207 t206) ∧ Aside0 (Below w.heap.size w w'))
 case atStart => exact ⟨(([] : List (S23))), (0), (by first | rfl | (simp; done) | (simp [*]; done)), H', ⟨Nat.le_refl _⟩, ⟨by first | exact Kd.R_nil _ _ _ _ _ | exact Kd.N_nil _ _ _ _ _ | exact Kd.V_nil _ _ _ _ _ | exact Kd.Q_nil _ _ _ _ _ | exact Kd.S_nil _ _ _ _ _⟩, ⟨by (with_reducible repeat (first | apply Kd.R_alloc | apply Kd.R_drewN | apply Kd.R_drew)); exact HO208.out⟩, ⟨by repeat (first | (with_reducible first | exact HB.out | apply below_alloc | apply pw_below_drewN | apply below_drew1) | exact HB.out)⟩⟩
 case round =>
  clear H'
  try clear p2
  obtain ⟨x3_1, x5_1, rfl, HA, HK1, HO_3, HO_4, HB⟩ := hrel
  cases gk with
  | zero => exact absurd HA.out (by simp [galleyref02_Steps.l0])
  | succ k1 =>
   have H := HA.out
   clear HA
   simp only [galleyref02_Steps.l0] at H
   by_cases c4 : (wrap64 (x5_1 + 1)) < (t206.length : Int)
   ·rw [if_pos c4] at H
    have c4b0 : decide ((wrap64 (x5_1 + 1)) < (t206.length : Int)) = true := decide_eq_true c4
    clear c4
    by_cases c5 : 0 ≤ x5_1
    ·rw [if_pos c5] at H
     have c5b0 : decide (0 ≤ x5_1) = true := decide_eq_true c5
     clear c5
     by_cases c6 : x5_1 < (t206.length : Int)
     ·rw [if_pos c6] at H
      have c6b0 : decide (x5_1 < (t206.length : Int)) = true := decide_eq_true c6
      clear c6
      replace H := Option.bind_eq_some_iff.mp H
      obtain ⟨⟨t210, t211, t212⟩, A70, H⟩ := H
      replace H : (if x3_1.length < 5864062014805 then (galleyref02_Steps.l0 k1 l0 (x3_1 ++ [(⟨t210, t211, t212⟩ : S23)]) t206 (wrap64 (x5_1 + 1))) else (none)) = some r := H
      have A7 := Aside0.mk A70
      clear A70
      by_cases c8 : x3_1.length < 5864062014805
      ·rw [if_pos c8] at H
       have LMc8 := Aside0.mk c8
       clear c8
       obtain ⟨y213, hy213⟩ : ∃ y_ : List (S23), y_ = (x3_1 ++ [(⟨t210, t211, t212⟩ : S23)]) := ⟨_, rfl⟩
       replace H : (galleyref02_Steps.l0 k1 l0 y213 t206 (wrap64 (x5_1 + 1))) = some r := by first | (rw [hy213]; with_reducible exact H) | (have H2_ := (Option.bind_some _ _).symm.trans H; rw [hy213]; with_reducible exact H2_) | (have H2_ := (Option.bind_some _ _).symm.trans H; with_reducible exact H2_) | with_reducible exact H | (rw [hy213]; exact H) | exact H
       have Ny213 := Aside0.mk hy213
       clear hy213
       have H' := Aside0.mk H
       clear H
       obtain ⟨Ao9, co9, eo9⟩ := Kd.R_slice HO_4.out
       subst eo9
       have p209 : 0 ≤ (x5_1 : Int) := of_decide_eq_true (by first | (with_reducible assumption) | assumption)
       have q209 : x5_1 < (t206.length : Int) := of_decide_eq_true (by first | (with_reducible assumption) | assumption)
       obtain ⟨ad209, e209, hx209_0⟩ := Kd.at_int (Kd.R_reads' HO_4.out).2.2 x5_1 p209 q209
       cases e209
       replace p209 := eq_true p209
       replace q209 := eq_true q209
       go_wp2_with (first | ((with_reducible refine gate_callee (f := 87) rfl ?_); refine goesL_ (some 21) rfl rfl Tryd.func87 (by kernel_rfl) rfl #[.slice A0 l0.length c0, .int .i64 (rd t206 x5_1)] rfl (by (try simp only [List.map_toArray, List.map_cons, List.map_nil]); first | done | rfl | (simp only [List.length_drop, List.length_take]; rfl)) ?_; (with_reducible refine (galleyref02_Of.calls k1 _ _ l0 (rd t206 x5_1) t210 t211 t212 _ ?side1 ?side2 A7.out).mono ?_); (case side1 => repeat (first | exact (Kd.C_below HR0.out HB.out) | (with_reducible refine Kd.C_alloc ?_ _) | (with_reducible refine Kd.C_drewN ?_ _) | (with_reducible refine Kd.C_drew ?_))); (case side2 => exact HC0.out); rintro e w10 ⟨rfl, hb⟩; refine ⟨_, rfl, ?_⟩; have n0_ := Aside0.mk (Kd.R_below (by (with_reducible repeat (first | apply Kd.R_alloc | apply Kd.R_drewN | apply Kd.R_drew)); exact HO_3.out) hb); have n1_ := Aside0.mk (Kd.R_below (by (with_reducible repeat (first | apply Kd.R_alloc | apply Kd.R_drewN | apply Kd.R_drew)); exact HO_4.out) hb); have n2_ := Aside0.mk (below_step (by repeat (first | (with_reducible first | exact HB.out | apply below_alloc | apply pw_below_drewN | apply below_drew1) | exact HB.out)) hb); clear HO_3; clear HO_4; clear HB; have HO_3 := n0_; have HO_4 := n1_; have HB := n2_; clear n0_ n1_ n2_; (try clear hb); (try clear hb2); (try clear hk); (try clear hi)) | ((with_reducible refine gate_builtin (b := .append) (xs := #[.tmp 15, .tmp 22]) rfl ?_); at_builtin; refine Kd.R_append k23 (w0 := w) w.heap.size rfl (.tmp 15) (.tmp 22) 131 23 (.agg #[(.int .i32 0), (.int .i64 0), (.bool false)]) 24 rfl Tryd.underlying131 info23 rfl (by decide) (by omega) u3 x3_1 (⟨t210, t211, t212⟩ : S23) [.int .i32 t210, .int .i64 t211, .bool t212] (fun _ => True) (fun _ => False) rfl rfl ?aP (fun _ hk => hk.elim) ?aF ?aO ?aB ?aS ?aL ?_; (case aP => exact k23_mkM _ _ _ (⟨t210, t211, t212⟩ : S23)); (case aB => exact (by repeat (first | (with_reducible first | exact HB.out | apply below_alloc | apply pw_below_drewN | apply below_drew1) | exact HB.out))); (case aF => exact (fun _ _ => trivial)); (case aO => exact (by (with_reducible repeat (first | apply Kd.R_alloc | apply Kd.R_drewN | apply Kd.R_drew)); exact HO_3.out)); (case aS => exact (below_size (by repeat (first | (with_reducible first | exact HB.out | apply below_alloc | apply pw_below_drewN | apply below_drew1) | exact HB.out)))); (case aL => have := LMc8.out; omega); intro v214 w11 ho hb hg hat; rw [← Ny213.out] at ho; have n0_ := Aside0.mk (Kd.R_over' (by (with_reducible repeat (first | apply Kd.R_alloc | apply Kd.R_drewN | apply Kd.R_drew)); exact HO_4.out) (Kd.R_typed (by (with_reducible repeat (first | apply Kd.R_alloc | apply Kd.R_drewN | apply Kd.R_drew)); exact HO_3.out)) (by decide) hg); have n1_ := Aside0.mk (hb); have n2_ := Aside0.mk (ho); clear HO_4; clear HB; clear HO_3; have HO_4 := n0_; have HB := n1_; have HO215 := n2_; clear n0_ n1_ n2_; clear ho hb hg hat))
       go_roundg k1
       case measure => have := HK1.out; omega
       case rel => exact ⟨(y213), (wrap64 (x5_1 + 1)), (by first | rfl | (simp; done) | (simp [*]; done)), H', ⟨by have := HK1.out; omega⟩, ⟨by (with_reducible repeat (first | apply Kd.R_alloc | apply Kd.R_drewN | apply Kd.R_drew)); exact HO215.out⟩, ⟨by (with_reducible repeat (first | apply Kd.R_alloc | apply Kd.R_drewN | apply Kd.R_drew)); exact HO_4.out⟩, ⟨by repeat (first | (with_reducible first | exact HB.out | apply below_alloc | apply pw_below_drewN | apply below_drew1) | exact HB.out)⟩⟩
      ·rw [if_neg c8] at H
       exact absurd H (by simp)
     ·rw [if_neg c6] at H
      exact absurd H (by simp)
    ·rw [if_neg c5] at H
     exact absurd H (by simp)
   ·rw [if_neg c4] at H
    have c4b0 : decide ((wrap64 (x5_1 + 1)) < (t206.length : Int)) = false := decide_eq_false c4
    clear c4
    obtain rfl := Option.some.inj H
    obtain ⟨Ao12, co12, eo12⟩ := Kd.R_slice HO_4.out
    subst eo12
    go_wp2
    go_ret
    exact ⟨_, by first | rfl | (simp [errW_none, errW_some] <;> rfl) | (simp [*, errW_none, errW_some] <;> rfl), by (with_reducible repeat (first | apply Kd.R_alloc | apply Kd.R_drewN | apply Kd.R_drew)); exact HO_3.out, by repeat (first | (with_reducible first | exact HB.out | apply below_alloc | apply pw_below_drewN | apply below_drew1) | exact HB.out)⟩

end Go.Proofs.YtijbkiajhicooaaDoor.PW

