-- Written by merge.py, a program of this session's: PWx31 PWx32 PWx33 PWx34 PWx35 PureDecode PureEdges PureKind PureWordsKinds
import Derived.Test.YtijbkiajhicooaaDoorWordsKindsM1
import Derived.Test.YtijbkiajhicooaaDoorWordsKindsM3
import Derived.Lib.SlBytesConst
import Derived.Test.YtijbkiajhicooaaDoorWordsKindsM2
import Derived.Lib.Bytes
namespace Go.Proofs.YtijbkiajhicooaaDoor.PW
open Go.RowKit Go.Proofs.YtijbkiajhicooaaDoorW.PrintWords Go.Proofs.YtijbkiajhicooaaDoorW.PrintLast Go.Proofs.YtijbkiajhicooaaDoorW.PrintMore
attribute [local go_sem] max2_int min2_int max_two min_two max_three min_three max_four min_four   -- for this text's walks alone
set_option linter.unusedVariables false
set_option linter.unusedSimpArgs false

mutual
def words_Wrap.j0 : Nat → List Int → Int → Bool → Option (List Int × Int)
 | 0, _, _, _ => none
 | k + 1, x0, x1, x17 => if x17 = true then (some (([] : List Int), 2)) else ((lines_Count.f x0).bind fun t171 => (words_Wrap.l0 k x0 x1 ([] : List Int) t171 0))
def words_Wrap.l0 : Nat → List Int → Int → List Int → Int → Int → Option (List Int × Int)
 | 0, _, _, _, _, _ => none
 | k + 1, x0, x1, x6, x19, x20 => if x20 < x19 then ((lines_Line.f x0 x20).bind fun bt172 => (if 0 ≤ bt172.1 then (if bt172.1 ≤ bt172.2.1 then (if bt172.2.1 ≤ (x0.length : Int) then ((words_wrapped.f ((x0.take (bt172.2.1 : Int).toNat).drop (bt172.1 : Int).toNat) bt172.1 x1).bind fun t177 => (if x6.length + t177.length < 17592186044416 then (words_Wrap.l0 k x0 x1 (x6 ++ t177) x19 (wrap64 (x20 + 1))) else (none))) else (none)) else (none)) else (none))) else (some (x6, 0))
end
def words_Wrap.f (k : Nat) (l0 : List Int) (a1 : Int) : Option (List Int × Int) := if a1 < 1 then (words_Wrap.j0 k l0 a1 true) else (words_Wrap.j0 k l0 a1 (decide (a1 > 65536)))
set_option maxHeartbeats 8000000 in
set_option maxRecDepth 100000 in
theorem words_Wrap.calls (k : Nat) (A0 : Option Addr) (c0 : Nat) (l0 : List Int) (a1 : Int) (r1 : List Int) (r2 : Int) (w : World) (hr0 : Kd.C (Kd.int .u8) w A0 l0.length l0) (hc0 : l0.length ≤ c0) (hL : LaidBad w) (h : words_Wrap.f k l0 a1 = some (r1, r2)) :
  Calls Tryd.prog 36 #[.slice A0 l0.length c0, .int .i64 a1] w fun e w' => ∃ v0_ : Value, e = .returned (.tuple #[v0_, .int .i64 r2]) ∧ Kd.R (Kd.int .i64) 3 w' w.heap.size (fun _ => True) v0_ r1 ∧ Below w.heap.size w w' := by
 have HR0 := Aside0.mk hr0
 have HC0 := Aside0.mk hc0
 clear hr0 hc0
 have HB := Aside0.mk (Below.refl w.heap.size w)
 have HLB := Aside0.mk hL
 clear hL
 have H : (if a1 < 1 then (words_Wrap.j0 k l0 a1 true) else (words_Wrap.j0 k l0 a1 (decide (a1 > 65536)))) = some (r1, r2) := h
 clear h
 have HC3 := Aside0.mk H
 clear H
 go_enter Tryd.func36, Tryd.ntmps36
 go_upto_region 1 with (fail)
 go_cut [17] (fun v17 wc => ∃ (kq : Nat) (x17_2 : Bool), v17 = .bool x17_2 ∧ Aside0 (words_Wrap.j0 kq l0 a1 x17_2 = some (r1, r2)) ∧ Aside0 (kq ≤ k) ∧ Aside0 (Below w.heap.size w wc))
 case first =>
  have H := HC3.out
  clear HC3
  by_cases c4 : a1 < 1
  ·rw [if_pos c4] at H
   have c4b0 : decide (a1 < 1) = true := decide_eq_true c4
   clear c4
   (first | rw [c4b0] | (simp only [i64_w, i32_w]; rw [c4b0]) | skip)
   have H' := Aside0.mk H
   clear H
   go_wp2
   go_meet
   case rel => exact ⟨_, (true), (by first | rfl | (simp; done) | (simp [*]; done)), H', ⟨by first | omega | exact Nat.le_refl _⟩, ⟨by repeat (first | (with_reducible first | exact HB.out | apply below_alloc | apply pw_below_drewN | apply below_drew1) | exact HB.out)⟩⟩
  ·rw [if_neg c4] at H
   have c4b0 : decide (a1 < 1) = false := decide_eq_false c4
   clear c4
   (first | rw [c4b0] | (simp only [i64_w, i32_w]; rw [c4b0]) | skip)
   have H' := Aside0.mk H
   clear H
   go_wp2
   go_meet
   case rel => exact ⟨_, (decide (a1 > 65536)), (by first | rfl | (simp; done) | (simp [*]; done)), H', ⟨by first | omega | exact Nat.le_refl _⟩, ⟨by repeat (first | (with_reducible first | exact HB.out | apply below_alloc | apply pw_below_drewN | apply below_drew1) | exact HB.out)⟩⟩
 case rest =>
  clear HC3
  try clear p2
  try clear c3
  try clear c4
  try clear c4b0
  obtain ⟨kq, x17_2, rfl, HA, HJ2, HB⟩ := hcut
  cases kq with
  | zero => exact absurd HA.out (by simp [words_Wrap.j0])
  | succ kj2 =>
   have H := HA.out
   clear HA
   simp only [words_Wrap.j0] at H
   by_cases c5 : x17_2 = true
   ·subst c5
    have H1 : (some (([] : List Int), 2)) = some (r1, r2) := by rw [if_pos rfl] at H; exact H
    clear H
    have H := H1
    clear H1
    simp only [Option.some.injEq, Prod.mk.injEq] at H
    obtain ⟨rfl, rfl⟩ := H
    go_wp2
    go_ret2
    exact ⟨_, by first | rfl | (simp [errW_none, errW_some] <;> rfl) | (simp [*, errW_none, errW_some] <;> rfl), by first | exact Kd.R_nil _ _ _ _ _ | exact Kd.N_nil _ _ _ _ _ | exact Kd.V_nil _ _ _ _ _ | exact Kd.Q_nil _ _ _ _ _ | exact Kd.S_nil _ _ _ _ _, by repeat (first | (with_reducible first | exact HB.out | apply below_alloc | apply pw_below_drewN | apply below_drew1) | exact HB.out)⟩
   ·replace c5 := Bool.eq_false_iff.mpr c5
    subst c5
    have H1 : ((lines_Count.f l0).bind fun t171 => (words_Wrap.l0 kj2 l0 a1 ([] : List Int) t171 0)) = some (r1, r2) := by rw [if_neg (show ¬ (false = true) by decide)] at H; exact H
    clear H
    have H := H1
    clear H1
    replace H := Option.bind_eq_some_iff.mp H
    obtain ⟨t171, A60, H⟩ := H
    replace H : (words_Wrap.l0 kj2 l0 a1 ([] : List Int) t171 0) = some (r1, r2) := H
    have A6 := Aside0.mk A60
    clear A60
    have H' := Aside0.mk H
    clear H
    go_wp2_with (first | ((with_reducible refine gate_callee (f := 52) rfl ?_); refine goesL_ (some 19) rfl rfl Tryd.func52 (by kernel_rfl) rfl #[.slice A0 l0.length c0] rfl (by (try simp only [List.map_toArray, List.map_cons, List.map_nil]); first | done | rfl | (simp only [List.length_drop, List.length_take]; rfl)) ?_; (with_reducible refine (lines_Count.calls _ _ l0 t171 _ ?side1 ?side2 A6.out).mono ?_); (case side1 => repeat (first | exact (Kd.C_below HR0.out HB.out) | (with_reducible refine Kd.C_alloc ?_ _) | (with_reducible refine Kd.C_drewN ?_ _) | (with_reducible refine Kd.C_drew ?_))); (case side2 => exact HC0.out); rintro e w7 ⟨rfl, hb⟩; refine ⟨_, rfl, ?_⟩; have n0_ := Aside0.mk (below_step (by repeat (first | (with_reducible first | exact HB.out | apply below_alloc | apply pw_below_drewN | apply below_drew1) | exact HB.out)) hb); clear HB; have HB := n0_; clear n0_; (try clear hb); (try clear hb2); (try clear hk); (try clear hi)))
    go_loopg [6, 20] kj2 (fun kq v6 v20 w' => ∃ (x6_2 : List Int) (x20_2 : Int), v20 = .int .i64 x20_2 ∧ Aside0 (words_Wrap.l0 kq l0 a1 x6_2 t171 x20_2 = some (r1, r2)) ∧ Aside0 (kq ≤ kj2) ∧ Aside0 (Kd.R (Kd.int .i64) 3 w' w.heap.size (fun _ => True) v6 x6_2) ∧ Aside0 (Below w.heap.size w w'))
    case atStart => exact ⟨(([] : List Int)), (0), (by first | rfl | (simp; done) | (simp [*]; done)), H', ⟨Nat.le_refl _⟩, ⟨by first | exact Kd.R_nil _ _ _ _ _ | exact Kd.N_nil _ _ _ _ _ | exact Kd.V_nil _ _ _ _ _ | exact Kd.Q_nil _ _ _ _ _ | exact Kd.S_nil _ _ _ _ _⟩, ⟨by repeat (first | (with_reducible first | exact HB.out | apply below_alloc | apply pw_below_drewN | apply below_drew1) | exact HB.out)⟩⟩
    case round =>
     clear H'
     try clear p2
     try clear c3
     try clear c4
     try clear c4b0
     try clear c5
     try clear p2
     obtain ⟨x6_2, x20_2, rfl, HA, HK2, HO_6, HB⟩ := hrel
     cases gk with
     | zero => exact absurd HA.out (by simp [words_Wrap.l0])
     | succ k2 =>
      have H := HA.out
      clear HA
      simp only [words_Wrap.l0] at H
      by_cases c8 : x20_2 < t171
      ·rw [if_pos c8] at H
       have c8b0 : decide (x20_2 < t171) = true := decide_eq_true c8
       clear c8
       replace H := Option.bind_eq_some_iff.mp H
       obtain ⟨⟨t172, t173, t174, t175⟩, A90, H⟩ := H
       replace H : (if 0 ≤ t172 then (if t172 ≤ t173 then (if t173 ≤ (l0.length : Int) then ((words_wrapped.f ((l0.take (t173 : Int).toNat).drop (t172 : Int).toNat) t172 a1).bind fun t177 => (if x6_2.length + t177.length < 17592186044416 then (words_Wrap.l0 k2 l0 a1 (x6_2 ++ t177) t171 (wrap64 (x20_2 + 1))) else (none))) else (none)) else (none)) else (none)) = some (r1, r2) := H
       have A9 := Aside0.mk A90
       clear A90
       by_cases c10 : 0 ≤ t172
       ·rw [if_pos c10] at H
        have c10b0 := eq_true c10
        have c10b1 : decide (0 ≤ t172) = true := decide_eq_true c10
        clear c10
        by_cases c11 : t172 ≤ t173
        ·rw [if_pos c11] at H
         have c11b0 := eq_true c11
         have c11b1 : decide (t172 ≤ t173) = true := decide_eq_true c11
         clear c11
         by_cases c12 : t173 ≤ (l0.length : Int)
         ·rw [if_pos c12] at H
          have c12b0 := eq_true c12
          have c12b1 : decide (t173 ≤ (l0.length : Int)) = true := decide_eq_true c12
          clear c12
          replace H := Option.bind_eq_some_iff.mp H
          obtain ⟨t177, A130, H⟩ := H
          replace H : (if x6_2.length + t177.length < 17592186044416 then (words_Wrap.l0 k2 l0 a1 (x6_2 ++ t177) t171 (wrap64 (x20_2 + 1))) else (none)) = some (r1, r2) := H
          have A13 := Aside0.mk A130
          clear A130
          by_cases c14 : x6_2.length + t177.length < 17592186044416
          ·rw [if_pos c14] at H
           have LMc14 := Aside0.mk c14
           clear c14
           obtain ⟨y180, hy180⟩ : ∃ y_ : List Int, y_ = (x6_2 ++ t177) := ⟨_, rfl⟩
           replace H : (words_Wrap.l0 k2 l0 a1 y180 t171 (wrap64 (x20_2 + 1))) = some (r1, r2) := by first | (rw [hy180]; with_reducible exact H) | (have H2_ := (Option.bind_some _ _).symm.trans H; rw [hy180]; with_reducible exact H2_) | (have H2_ := (Option.bind_some _ _).symm.trans H; with_reducible exact H2_) | with_reducible exact H | (rw [hy180]; exact H) | exact H
           have Ny180 := Aside0.mk hy180
           clear hy180
           have H' := Aside0.mk H
           clear H
           go_wp2_with (first | ((with_reducible refine gate_callee (f := 46) rfl ?_); refine goesL_ (some 26) rfl rfl Tryd.func46 (by kernel_rfl) rfl #[.slice A0 l0.length c0, .int .i64 x20_2] rfl (by (try simp only [List.map_toArray, List.map_cons, List.map_nil]); first | done | rfl | (simp only [List.length_drop, List.length_take]; rfl)) ?_; (with_reducible refine (lines_Line.calls _ _ l0 x20_2 t172 t173 t174 t175 _ ?side1 ?side2 A9.out).mono ?_); (case side1 => repeat (first | exact (Kd.C_below HR0.out HB.out) | (with_reducible refine Kd.C_alloc ?_ _) | (with_reducible refine Kd.C_drewN ?_ _) | (with_reducible refine Kd.C_drew ?_))); (case side2 => exact HC0.out); rintro e w15 ⟨rfl, hb⟩; refine ⟨_, rfl, ?_⟩; have n0_ := Aside0.mk (Kd.R_below (by (with_reducible repeat (first | apply Kd.R_alloc | apply Kd.R_drewN | apply Kd.R_drew)); exact HO_6.out) hb); have n1_ := Aside0.mk (below_step (by repeat (first | (with_reducible first | exact HB.out | apply below_alloc | apply pw_below_drewN | apply below_drew1) | exact HB.out)) hb); clear HO_6; clear HB; have HO_6 := n0_; have HB := n1_; clear n0_ n1_; (try clear hb); (try clear hb2); (try clear hk); (try clear hi); obtain ⟨i016, hi016, _, hsz16, _⟩ := info_parts info5; obtain ⟨A16, hcut16, hA16, hC16⟩ := print_mid_of (P := Tryd.prog) (Value.int .u8) 0 29 5 .i64 .i64 Tryd.underlying29 hi016 hsz16 A0 c0 l0 t172 t173 (of_decide_eq_true (by first | (with_reducible assumption) | assumption)) (by first | omega | exact of_decide_eq_true (by first | (with_reducible assumption) | assumption)) (of_decide_eq_true (by first | (with_reducible assumption) | assumption)) HC0.out; have HR176 := Aside0.mk (Kd.C_of_reads (h1 := fun _ => rfl) (hA16 _ (Kd.reads_of_C HR0.out))); have HC176 := Aside0.mk hC16; clear hA16 hC16 hi016 hsz16) | ((with_reducible refine gate_callee (f := 66) rfl ?_); refine goesL_ (some 38) rfl rfl Tryd.func66 (by kernel_rfl) rfl #[.slice A16 ((l0.take (t173 : Int).toNat).drop (t172 : Int).toNat).length (c0 - t172.toNat), .int .i64 t172, .int .i64 a1] rfl (by (try simp only [List.map_toArray, List.map_cons, List.map_nil]); first | done | (rw [show ((l0.take (t173 : Int).toNat).drop (t172 : Int).toNat).length = (t173.toNat - t172.toNat) from (by rw [List.length_drop, List.length_take]; have h_ : (t173 : Int) ≤ (l0.length : Int) := of_decide_eq_true (by first | (with_reducible assumption) | assumption); omega)] <;> rfl) | rfl | (simp only [List.length_drop, List.length_take]; rfl)) ?_; (with_reducible refine (words_wrapped.calls _ _ ((l0.take (t173 : Int).toNat).drop (t172 : Int).toNat) t172 a1 t177 _ ?side1 ?side2 ?side3 A13.out).mono ?_); (case side1 => repeat (first | exact (Kd.C_below HR176.out HB.out) | (with_reducible refine Kd.C_alloc ?_ _) | (with_reducible refine Kd.C_drewN ?_ _) | (with_reducible refine Kd.C_drew ?_))); (case side2 => exact HC176.out); (case side3 => exact laid_below HLB.out (by repeat (first | (with_reducible first | exact HB.out | apply below_alloc | apply pw_below_drewN | apply below_drew1) | exact HB.out))); rintro e w17 ⟨v178, rfl, ho0, hb⟩; refine ⟨_, rfl, ?_⟩; have n0_ := Aside0.mk (Kd.R_elder' (by (with_reducible repeat (first | apply Kd.R_alloc | apply Kd.R_drewN | apply Kd.R_drew)); exact HO_6.out) (Kd.R_base ho0) hb); have n1_ := Aside0.mk (Kd.R_lower (Kd.R_new' ho0 (Kd.R_lt (by (with_reducible repeat (first | apply Kd.R_alloc | apply Kd.R_drewN | apply Kd.R_drew)); exact HO_6.out))) (below_size (by repeat (first | (with_reducible first | exact HB.out | apply below_alloc | apply pw_below_drewN | apply below_drew1) | exact HB.out)))); have n2_ := Aside0.mk (below_step (by repeat (first | (with_reducible first | exact HB.out | apply below_alloc | apply pw_below_drewN | apply below_drew1) | exact HB.out)) hb); clear HO_6; clear HB; have HO_6 := n0_; have HO179 := n1_; have HB := n2_; clear n0_ n1_ n2_; (try clear hb); (try clear hb2); (try clear hk); (try clear hi); (try clear ho0); obtain ⟨Ao19, co19, eo19⟩ := Kd.R_slice HO179.out; subst eo19) | ((with_reducible refine gate_builtin (b := .append) (xs := #[.tmp 31, .tmp 38]) rfl ?_); at_builtin; refine Kd.R_append_rows (Kd.int .i64) (w0 := w) w.heap.size rfl (.tmp 31) (.tmp 38) 69 3 (.int .i64 0) 8 rfl Tryd.underlying69 info3 rfl (by decide) (by omega) u6 x6_2 t177 _ _ _ (fun k_ => some k_ ≠ (.slice Ao19 t177.length co19 : Value).ownBlock) (fun _ => False) rfl rfl ?aO ?aR (fun _ _ h => h) (fun _ h => h.elim) ?aF ?aB ?aS ?aL ?_; (case aR => repeat (first | exact (Kd.R_reads' HO179.out).2.2 | (with_reducible refine Kd.C_alloc ?_ _) | (with_reducible refine Kd.C_drewN ?_ _) | (with_reducible refine Kd.C_drew ?_))); (case aB => exact (by repeat (first | (with_reducible first | exact HB.out | apply below_alloc | apply pw_below_drewN | apply below_drew1) | exact HB.out))); (case aF => exact (fun k_ hk => Kd.fresh' (Kd.R_lt (by (with_reducible repeat (first | apply Kd.R_alloc | apply Kd.R_drewN | apply Kd.R_drew)); exact HO179.out)) k_ hk)); (case aO => exact (by (with_reducible repeat (first | apply Kd.R_alloc | apply Kd.R_drewN | apply Kd.R_drew)); exact Kd.R_mono HO_6.out (fun _ hk => hk.2))); (case aS => exact (below_size (by repeat (first | (with_reducible first | exact HB.out | apply below_alloc | apply pw_below_drewN | apply below_drew1) | exact HB.out)))); (case aL => have := LMc14.out; omega); intro v181 w18 ho hb hg hat; rw [← Ny180.out] at ho; have n0_ := Aside0.mk (Kd.R_after (ok := (fun _ => True)) (by (with_reducible repeat (first | apply Kd.R_alloc | apply Kd.R_drewN | apply Kd.R_drew)); exact HO179.out) hg hat); have n1_ := Aside0.mk (hb); have n2_ := Aside0.mk (ho); clear HO179; clear HB; clear HO_6; have HO179 := n0_; have HB := n1_; have HO182 := n2_; clear n0_ n1_ n2_; clear ho hb hg hat))
           go_roundg k2
           case measure => have := HJ2.out; have := HK2.out; omega
           case rel => exact ⟨(y180), (wrap64 (x20_2 + 1)), (by first | rfl | (simp; done) | (simp [*]; done)), H', ⟨by have := HJ2.out; have := HK2.out; omega⟩, ⟨by (with_reducible repeat (first | apply Kd.R_alloc | apply Kd.R_drewN | apply Kd.R_drew)); exact Kd.R_mono HO182.out (fun _ hk => trivial)⟩, ⟨by repeat (first | (with_reducible first | exact HB.out | apply below_alloc | apply pw_below_drewN | apply below_drew1) | exact HB.out)⟩⟩
          ·rw [if_neg c14] at H
           exact absurd H (by simp)
         ·rw [if_neg c12] at H
          exact absurd H (by simp)
        ·rw [if_neg c11] at H
         exact absurd H (by simp)
       ·rw [if_neg c10] at H
        exact absurd H (by simp)
      ·rw [if_neg c8] at H
       have c8b0 : decide (x20_2 < t171) = false := decide_eq_false c8
       clear c8
       simp only [Option.some.injEq, Prod.mk.injEq] at H
       obtain ⟨rfl, rfl⟩ := H
       go_wp2
       go_ret2
       exact ⟨_, by first | rfl | (simp [errW_none, errW_some] <;> rfl) | (simp [*, errW_none, errW_some] <;> rfl), by (with_reducible repeat (first | apply Kd.R_alloc | apply Kd.R_drewN | apply Kd.R_drew)); exact HO_6.out, by repeat (first | (with_reducible first | exact HB.out | apply below_alloc | apply pw_below_drewN | apply below_drew1) | exact HB.out)⟩

end Go.Proofs.YtijbkiajhicooaaDoor.PW

namespace Go.Proofs.YtijbkiajhicooaaDoor.PW
open Go.RowKit Go.Proofs.YtijbkiajhicooaaDoorW.PrintWords Go.Proofs.YtijbkiajhicooaaDoorW.PrintLast Go.Proofs.YtijbkiajhicooaaDoorW.PrintMore
attribute [local go_sem] max2_int min2_int max_two min_two max_three min_three max_four min_four   -- for this text's walks alone
set_option linter.unusedVariables false
set_option linter.unusedSimpArgs false

def galleyref01_SameInts.l0 : Nat → List Int → List Int → Int → Option (Bool)
 | 0, _, _, _ => none
 | k + 1, x0, x1, x5 => if x5 < (x0.length : Int) then (if 0 ≤ x5 then (if x5 < (x1.length : Int) then (if (rd x0 x5) = (rd x1 x5) then (galleyref01_SameInts.l0 k x0 x1 (wrap64 (x5 + 1))) else (some false)) else (none)) else (none)) else (some true)
def galleyref01_SameInts.f (k : Nat) (l0 : List Int) (l1 : List Int) : Option (Bool) := if (l0.length : Int) = (l1.length : Int) then (galleyref01_SameInts.l0 k l0 l1 0) else (some false)
set_option maxHeartbeats 8000000 in
set_option maxRecDepth 100000 in
theorem galleyref01_SameInts.calls (k : Nat) (A0 : Option Addr) (c0 : Nat) (l0 : List Int) (A1 : Option Addr) (c1 : Nat) (l1 : List Int) (r : Bool) (w : World) (hr0 : Kd.C (Kd.int .i64) w A0 l0.length l0) (hc0 : l0.length ≤ c0) (hr1 : Kd.C (Kd.int .i64) w A1 l1.length l1) (hc1 : l1.length ≤ c1) (h : galleyref01_SameInts.f k l0 l1 = some r) :
  Calls Tryd.prog 38 #[.slice A0 l0.length c0, .slice A1 l1.length c1] w fun e w' => e = .returned (.bool r) ∧ Drawn0 w w' := by
 have HR0 := Aside0.mk hr0
 have HC0 := Aside0.mk hc0
 clear hr0 hc0
 have HR1 := Aside0.mk hr1
 have HC1 := Aside0.mk hc1
 clear hr1 hc1
 have H : (if (l0.length : Int) = (l1.length : Int) then (galleyref01_SameInts.l0 k l0 l1 0) else (some false)) = some r := h
 clear h
 by_cases c3 : (l0.length : Int) = (l1.length : Int)
 ·rw [if_pos c3] at H
  have c3b0 : ((l0.length : Int) == (l1.length : Int)) = true := beq_iff_eq.mpr c3
  have c3b1 : ((l0.length : Int) != (l1.length : Int)) = false := bne_eq_false_iff_eq.mpr c3
  have c3b2 : (l0.length == l1.length) = true := by first | simpa using c3 | (simp at c3 ⊢; omega)
  clear c3
  have H' := Aside0.mk H
  clear H
  go_enter Tryd.func38, Tryd.ntmps38
  go_wp2
  repeat (go_quiet (fail); try go_wp2)
  go_loopg [5] k (fun kq v5 w' => ∃ (x5_1 : Int), v5 = .int .i64 x5_1 ∧ Aside0 (galleyref01_SameInts.l0 kq l0 l1 x5_1 = some r) ∧ Aside0 (kq ≤ k) ∧ Drawn0 w w')
  case atStart => exact ⟨(0), (by first | rfl | (simp; done) | (simp [*]; done)), H', ⟨Nat.le_refl _⟩, by repeat (first | exact Drawn0.refl _ | apply Drawn0.step)⟩
  case round =>
   clear H'
   try clear c1
   try clear p2
   try clear c3
   try clear c3b0
   try clear c3b1
   try clear c3b2
   obtain ⟨x5_1, rfl, HA, HK1, ⟨m1, rfl⟩⟩ := hrel
   cases gk with
   | zero => exact absurd HA.out (by simp [galleyref01_SameInts.l0])
   | succ k1 =>
    have H := HA.out
    clear HA
    simp only [galleyref01_SameInts.l0] at H
    by_cases c4 : x5_1 < (l0.length : Int)
    ·rw [if_pos c4] at H
     have c4b0 : decide (x5_1 < (l0.length : Int)) = true := decide_eq_true c4
     clear c4
     by_cases c5 : 0 ≤ x5_1
     ·rw [if_pos c5] at H
      have c5b0 : decide (0 ≤ x5_1) = true := decide_eq_true c5
      clear c5
      by_cases c6 : x5_1 < (l1.length : Int)
      ·rw [if_pos c6] at H
       have c6b0 : decide (x5_1 < (l1.length : Int)) = true := decide_eq_true c6
       clear c6
       by_cases c7 : (rd l0 x5_1) = (rd l1 x5_1)
       ·rw [if_pos c7] at H
        have c7b0 : ((rd l0 x5_1) == (rd l1 x5_1)) = true := beq_iff_eq.mpr c7
        have c7b1 : ((rd l0 x5_1) != (rd l1 x5_1)) = false := bne_eq_false_iff_eq.mpr c7
        clear c7
        have H' := Aside0.mk H
        clear H
        have p183 : 0 ≤ (x5_1 : Int) := of_decide_eq_true (by first | (with_reducible assumption) | assumption)
        have q183 : x5_1 < (l0.length : Int) := of_decide_eq_true (by first | (with_reducible assumption) | assumption)
        obtain ⟨ad183, e183, hx183_0⟩ := Kd.at_int HR0.out x5_1 p183 q183
        cases e183
        replace p183 := eq_true p183
        replace q183 := eq_true q183
        have p184 : 0 ≤ (x5_1 : Int) := of_decide_eq_true (by first | (with_reducible assumption) | assumption)
        have q184 : x5_1 < (l1.length : Int) := of_decide_eq_true (by first | (with_reducible assumption) | assumption)
        obtain ⟨ad184, e184, hx184_0⟩ := Kd.at_int HR1.out x5_1 p184 q184
        cases e184
        replace p184 := eq_true p184
        replace q184 := eq_true q184
        go_wp2
        repeat (go_quiet (fail); try go_wp2)
        go_roundg k1
        case measure => have := HK1.out; omega
        case rel => exact ⟨(wrap64 (x5_1 + 1)), (by first | rfl | (simp; done) | (simp [*]; done)), H', ⟨by have := HK1.out; omega⟩, by repeat (first | exact Drawn0.refl _ | apply Drawn0.step)⟩
       ·rw [if_neg c7] at H
        have c7b0 : ((rd l0 x5_1) == (rd l1 x5_1)) = false := beq_eq_false_iff_ne.mpr c7
        have c7b1 : ((rd l0 x5_1) != (rd l1 x5_1)) = true := bne_iff_ne.mpr c7
        obtain rfl := Option.some.inj H
        have p183 : 0 ≤ (x5_1 : Int) := of_decide_eq_true (by first | (with_reducible assumption) | assumption)
        have q183 : x5_1 < (l0.length : Int) := of_decide_eq_true (by first | (with_reducible assumption) | assumption)
        obtain ⟨ad183, e183, hx183_0⟩ := Kd.at_int HR0.out x5_1 p183 q183
        cases e183
        replace p183 := eq_true p183
        replace q183 := eq_true q183
        have p184 : 0 ≤ (x5_1 : Int) := of_decide_eq_true (by first | (with_reducible assumption) | assumption)
        have q184 : x5_1 < (l1.length : Int) := of_decide_eq_true (by first | (with_reducible assumption) | assumption)
        obtain ⟨ad184, e184, hx184_0⟩ := Kd.at_int HR1.out x5_1 p184 q184
        cases e184
        replace p184 := eq_true p184
        replace q184 := eq_true q184
        go_wp2
        repeat (go_quiet (fail); try go_wp2)
        go_ret
        exact ⟨by first | rfl | (simp; done) | (simp [*]; done), by repeat (first | exact Drawn0.refl _ | apply Drawn0.step)⟩
      ·rw [if_neg c6] at H
       exact absurd H (by simp)
     ·rw [if_neg c5] at H
      exact absurd H (by simp)
    ·rw [if_neg c4] at H
     have c4b0 : decide (x5_1 < (l0.length : Int)) = false := decide_eq_false c4
     clear c4
     obtain rfl := Option.some.inj H
     go_wp2
     repeat (go_quiet (fail); try go_wp2)
     go_ret
     exact ⟨by first | rfl | (simp; done) | (simp [*]; done), by repeat (first | exact Drawn0.refl _ | apply Drawn0.step)⟩
 ·rw [if_neg c3] at H
  have c3b0 : ((l0.length : Int) == (l1.length : Int)) = false := beq_eq_false_iff_ne.mpr c3
  have c3b1 : ((l0.length : Int) != (l1.length : Int)) = true := bne_iff_ne.mpr c3
  have c3b2 : (l0.length == l1.length) = false := by first | simpa using c3 | (simp at c3 ⊢; omega)
  obtain rfl := Option.some.inj H
  go_enter Tryd.func38, Tryd.ntmps38
  go_wp2
  repeat (go_quiet (fail); try go_wp2)
  go_ret
  exact ⟨by first | rfl | (simp; done) | (simp [*]; done), by repeat (first | exact Drawn0.refl _ | apply Drawn0.step)⟩

end Go.Proofs.YtijbkiajhicooaaDoor.PW

namespace Go.Proofs.YtijbkiajhicooaaDoor.PW
open Go.RowKit Go.Proofs.YtijbkiajhicooaaDoorW.PrintWords Go.Proofs.YtijbkiajhicooaaDoorW.PrintLast Go.Proofs.YtijbkiajhicooaaDoorW.PrintMore
attribute [local go_sem] max2_int min2_int max_two min_two max_three min_three max_four min_four   -- for this text's walks alone
set_option linter.unusedVariables false
set_option linter.unusedSimpArgs false

def wkT : List Int := [97, 98, 32, 99, 95, 57, 44, 32, 195, 169, 120]
def wkC : List Int := [97, 9, 98]
def wkW : List Int := [97, 97, 32, 98, 98, 32, 99, 99]
def wkH : List S36 := [⟨0, 2⟩, ⟨3, 6⟩, ⟨8, 11⟩]
theorem wk_around : words_Around.f 30 wkT 9 = some (8, 11, 3, 0) := by kernel_rfl
theorem wk_next : words_Next.f 30 wkT 3 = some (8, 0) := by kernel_rfl
theorem wk_prev : words_Prev.f 30 wkT 8 = some (3, 0) := by kernel_rfl
theorem wk_column : words_Column.f wkC 3 4 = some (5, 0) := by kernel_rfl
theorem wk_wrap : words_Wrap.f 30 wkW 4 = some ([3, 6], 0) := by kernel_rfl
theorem wk_all : words_All.f 30 wkT = some wkH := by kernel_rfl
theorem wk_same : galleyref22_SameHits.f 30 wkH wkH = some true := by kernel_rfl
theorem wk_ints : galleyref01_SameInts.f 30 [3, 6] [3, 6] = some true := by kernel_rfl
theorem wk_kind : words_Kind.f 3 95 1 true = some 3 := by kernel_rfl
def galleylaw22_wakes.f : Option Bool := some true
theorem C_const {k : IntKind} {w : World} {g : Nat} {t : TypeId} {fr : Nat × Nat} (l : List Int) (cs : Array Value) (hcs : cs = (l.map (Value.int k)).toArray) (h : w.heap[g]? = some (.cells cs t fr)) (hl : l.length ≤ 9223372036854775807) : Kd.C (Kd.int k) w (some ⟨g, 0, none⟩) l.length l :=
 Kd.C_of_reads (enc := Value.int k) (d := (0 : Int)) (h1 := fun _ => rfl) ⟨rfl, hl, fun _ => ⟨_, rfl, fun j hj => by
  rw [add_plain, cell_of_row w g j cs t fr h]
  subst hcs
  simp [hj]⟩⟩
theorem R_wkH (w W : World) (hB : Below w.heap.size w W) : k36.R 36 (W.alloc (.cells #[.int .i64 0, .int .i64 2, .int .i64 3, .int .i64 6, .int .i64 8, .int .i64 11] 36)) w.heap.size (fun _ => True) (.slice (some ⟨W.heap.size, 0, none⟩) 3 3) wkH := by
 have h2 := World.ownsRow_lit (base := w.heap.size) (e := 36) (size := 2) W #[.int .i64 0, .int .i64 2, .int .i64 3, .int .i64 6, .int .i64 8, .int .i64 11] 3 hB.size (by simp [maxLen]) (by simp)
 refine ⟨fun _ _ => trivial, _, (by simpa using h2 : World.ownsRow _ _ _ 2 _ 3 _), rfl, fun j p hj => ?_⟩
 match j, hj with
 | 0, hj => cases hj; exact k36_mkM _ _ _ ⟨0, 2⟩
 | 1, hj => cases hj; exact k36_mkM _ _ _ ⟨3, 6⟩
 | 2, hj => cases hj; exact k36_mkM _ _ _ ⟨8, 11⟩
 | j + 3, hj => simp [wkH] at hj
set_option maxRecDepth 100000 in
set_option maxHeartbeats 4000000 in
theorem galleylaw22_wakes.walk (w : World) (hL : LaidBad w) :
  Calls Tryd.prog 13 #[] w fun e w' => e = .returned (.bool true) ∧ Below w.heap.size w w' := by
 have kc := fun (w : World) (C : Array Value) (n c : Nat) => Lib.run_convert_bytes_const (P := Tryd.prog) w 29 5 C n c Tryd.underlying29 Tryd.underlying5
 have hu := Tryd.underlying36
 have hu2 := Tryd.underlying23
 obtain ⟨W1, hW1⟩ : ∃ W1, w.alloc (.cells #[.int .u8 97, .int .u8 98, .int .u8 32, .int .u8 99, .int .u8 95, .int .u8 57, .int .u8 44, .int .u8 32, .int .u8 195, .int .u8 169, .int .u8 120] 5 (11, 12)) = W1 := ⟨_, rfl⟩
 have hB1 : Below w.heap.size w W1 := by rw [← hW1]; exact (Below.refl _ w).alloc (Nat.le_refl _) _
 have HB1 := Aside0.mk hB1
 have HT1 : Aside0 (Kd.C (Kd.int .u8) W1 (some ⟨w.heap.size, 0, none⟩) wkT.length wkT) := Aside0.mk (C_const (t := 5) (fr := (11, 12)) wkT _ rfl (by rw [← hW1]; exact World.alloc_heap_new w _) (by decide))
 have HL1 := Aside0.mk (laid_below hL hB1)
 have HL := Aside0.mk hL
 clear hL hB1
 go_enter Tryd.func13, Tryd.ntmps13
 go_wp2_with fail
 refine (words_Around.calls 30 _ 11 wkT 9 8 11 3 0 _ HT1.out (Nat.le_refl _) HL1.out wk_around).mono ?_
 rintro e w2 ⟨rfl, hb2⟩
 have HB2 := Aside0.mk (below_step HB1.out hb2)
 have HT2 := Aside0.mk (Kd.C_below HT1.out hb2)
 clear hb2 hW1 HB1 HT1 HL1
 go_wp2_with fail
 have HB2' := Aside0.mk (below_alloc HB2.out (.cells #[.int .i64 8, .int .i64 11] 36))
 have HT2' := Aside0.mk (Kd.C_alloc HT2.out (.cells #[.int .i64 8, .int .i64 11] 36))
 refine (words_Next.calls 30 _ 11 wkT 3 8 0 _ HT2'.out (Nat.le_refl _) (laid_below HL.out HB2'.out) wk_next).mono ?_
 rintro e w3 ⟨rfl, hb3⟩
 have HG3 := Aside0.mk (blk_below (blk_new w2 (.cells #[.int .i64 8, .int .i64 11] 36)) hb3)
 have HB3 := Aside0.mk (below_step HB2'.out hb3)
 have HT3 := Aside0.mk (Kd.C_below HT2'.out hb3)
 clear hb3 HB2 HT2 HB2' HT2'
 go_wp2_with fail
 refine (words_Prev.calls 30 _ 11 wkT 8 3 0 _ HT3.out (Nat.le_refl _) (laid_below HL.out HB3.out) wk_prev).mono ?_
 rintro e w4 ⟨rfl, hb4⟩
 have HG4 := Aside0.mk (blk_below HG3.out hb4)
 have HB4 := Aside0.mk (below_step HB3.out hb4)
 have HT4 := Aside0.mk (Kd.C_below HT3.out hb4)
 clear hb4 HG3 HB3 HT3
 go_wp2_with fail
 have HB4' := Aside0.mk (below_alloc HB4.out (.cells #[.int .u8 97, .int .u8 9, .int .u8 98] 5 (3, 4)))
 have HT4' := Aside0.mk (Kd.C_alloc HT4.out (.cells #[.int .u8 97, .int .u8 9, .int .u8 98] 5 (3, 4)))
 have HC4 : Aside0 (Kd.C (Kd.int .u8) (w4.alloc (.cells #[.int .u8 97, .int .u8 9, .int .u8 98] 5 (3, 4))) (some ⟨w4.heap.size, 0, none⟩) wkC.length wkC) := Aside0.mk (C_const (t := 5) (fr := (3, 4)) wkC _ rfl (World.alloc_heap_new w4 _) (by decide))
 refine (words_Column.calls _ 3 wkC 3 4 5 0 _ HC4.out (Nat.le_refl _) (laid_below HL.out HB4'.out) wk_column).mono ?_
 rintro e w5 ⟨rfl, hb5⟩
 have HG5 := Aside0.mk (blk_below (blk_alloc HG4.out (.cells #[.int .u8 97, .int .u8 9, .int .u8 98] 5 (3, 4))) hb5)
 have HB5 := Aside0.mk (below_step HB4'.out hb5)
 have HT5 := Aside0.mk (Kd.C_below HT4'.out hb5)
 clear hb5 HG4 HB4 HT4 HB4' HT4' HC4
 go_wp2_with fail
 have HB5' := Aside0.mk (below_alloc HB5.out (.cells #[.int .u8 97, .int .u8 97, .int .u8 32, .int .u8 98, .int .u8 98, .int .u8 32, .int .u8 99, .int .u8 99] 5 (8, 9)))
 have HT5' := Aside0.mk (Kd.C_alloc HT5.out (.cells #[.int .u8 97, .int .u8 97, .int .u8 32, .int .u8 98, .int .u8 98, .int .u8 32, .int .u8 99, .int .u8 99] 5 (8, 9)))
 have HC5 : Aside0 (Kd.C (Kd.int .u8) (w5.alloc (.cells #[.int .u8 97, .int .u8 97, .int .u8 32, .int .u8 98, .int .u8 98, .int .u8 32, .int .u8 99, .int .u8 99] 5 (8, 9))) (some ⟨w5.heap.size, 0, none⟩) wkW.length wkW) := Aside0.mk (C_const (t := 5) (fr := (8, 9)) wkW _ rfl (World.alloc_heap_new w5 _) (by decide))
 refine (words_Wrap.calls 30 _ 8 wkW 4 [3, 6] 0 _ HC5.out (Nat.le_refl _) (laid_below HL.out HB5'.out) wk_wrap).mono ?_
 rintro e w6 ⟨vw, rfl, hv6, hb6⟩
 have HG6 := Aside0.mk (blk_below (blk_alloc HG5.out (.cells #[.int .u8 97, .int .u8 97, .int .u8 32, .int .u8 98, .int .u8 98, .int .u8 32, .int .u8 99, .int .u8 99] 5 (8, 9))) hb6)
 have HB6 := Aside0.mk (below_step HB5'.out hb6)
 have HT6 := Aside0.mk (Kd.C_below HT5'.out hb6)
 obtain ⟨AW, cW, rfl⟩ := Kd.R_slice hv6
 have HV6 := Aside0.mk (Kd.R_reads' hv6)
 clear hb6 HG5 HB5 HT5 HB5' HT5' HC5 hv6
 have c60 := blk_cell HG6.out 0
 have c61 := blk_cell HG6.out 1
 go_wp2_with fail
 refine (words_All.calls 30 _ 11 wkT wkH _ HT6.out (Nat.le_refl _) (laid_below HL.out HB6.out) wk_all).mono ?_
 rintro e w7 ⟨va, rfl, hv7, hb7⟩
 obtain ⟨AA, cA, rfl⟩ := Kd.R_slice hv7
 have HV7 := Aside0.mk (Kd.R_reads' hv7)
 have HB7 := Aside0.mk (below_step HB6.out hb7)
 have HW7 := Aside0.mk (Kd.C_below HV6.out.2.2 hb7)
 clear hb7 hv7 c60 c61 HG6 HB6 HT6
 go_wp2_with fail
 have hH := R_wkH w7 w7 (Below.refl _ _)
 refine (galleyref22_SameHits.calls 30 AA cA wkH (some ⟨w7.heap.size, 0, none⟩) 3 wkH true _ (Kd.C_alloc HV7.out.2.2 _) HV7.out.2.1 (Kd.R_reads' hH).2.2 (Kd.R_reads' hH).2.1 wk_same).mono ?_
 rintro e w8 ⟨rfl, ⟨n8, rfl⟩⟩
 go_wp2_with fail
 obtain ⟨W8, hW8⟩ : ∃ W8, ((w7.alloc (.cells #[.int .i64 0, .int .i64 2, .int .i64 3, .int .i64 6, .int .i64 8, .int .i64 11] 36)).drewN n8) = W8 := ⟨_, rfl⟩
 have HB8 := Aside0.mk (show Below w.heap.size w W8 by rw [← hW8]; exact pw_below_drewN (below_alloc HB7.out _) _)
 have HW8 := Aside0.mk (show Kd.C (Kd.int .i64) W8 AW [3, 6].length [3, 6] by rw [← hW8]; exact Kd.C_drewN (Kd.C_alloc HW7.out _) _)
 have hs8 : W8.heap.size = w7.heap.size + 1 := by rw [← hW8]; simp
 rw [hW8]
 clear hW8
 have HI8 : Aside0 (Kd.C (Kd.int .i64) (W8.alloc (.cells #[.int .i64 3, .int .i64 6] 3)) (some ⟨w7.heap.size + 1, 0, none⟩) [3, 6].length [3, 6]) := Aside0.mk (C_const (t := 3) (fr := (0, 0)) [3, 6] _ rfl (by rw [← hs8]; exact World.alloc_heap_new W8 _) (by decide))
 refine (galleyref01_SameInts.calls 30 AW cW [3, 6] (some ⟨w7.heap.size + 1, 0, none⟩) 2 [3, 6] true _ (Kd.C_alloc HW8.out _) HV6.out.2.1 HI8.out (Nat.le_refl _) wk_ints).mono ?_
 rintro e w9 ⟨rfl, ⟨n9, rfl⟩⟩
 have HB9 := Aside0.mk (pw_below_drewN (below_alloc HB8.out (.cells #[.int .i64 3, .int .i64 6] 3)) n9)
 go_wp2_with fail
 refine (words_Kind.calls 3 95 1 true 3 _ wk_kind).mono ?_
 rintro e wa ⟨rfl, hba⟩
 go_wp2
 go_ret
 exact ⟨rfl, below_step HB9.out hba⟩
theorem galleylaw22_wakes.calls (r : Bool) (w : World) (hL : LaidBad w) (h : galleylaw22_wakes.f = some r) :
  Calls Tryd.prog 13 #[] w fun e w' => e = .returned (.bool r) ∧ Below w.heap.size w w' := by
 cases h
 exact galleylaw22_wakes.walk w hL

end Go.Proofs.YtijbkiajhicooaaDoor.PW

namespace Go.Proofs.YtijbkiajhicooaaDoor.PW
open Go.RowKit Go.Proofs.YtijbkiajhicooaaDoorW.PrintWords Go.Proofs.YtijbkiajhicooaaDoorW.PrintLast Go.Proofs.YtijbkiajhicooaaDoorW.PrintMore
attribute [local go_sem] max2_int min2_int max_two min_two max_three min_three max_four min_four   -- for this text's walks alone
set_option linter.unusedVariables false
set_option linter.unusedSimpArgs false

mutual
def galleyref22_Kind.j0 : Nat → Int → Bool → Option (Int)
 | 0, _, _ => none
 | k + 1, x3, x14 => if x14 = true then (some 1) else (if x3 = 10 then (galleyref22_Kind.j1 k x3 true) else (galleyref22_Kind.j1 k x3 (x3 == 13)))
def galleyref22_Kind.j1 : Nat → Int → Bool → Option (Int)
 | 0, _, _ => none
 | k + 1, x3, x20 => if x20 = true then (some 2) else (if x3 ≥ 48 then (if x3 ≤ 57 then (some 3) else (if x3 ≥ 65 then (if x3 ≤ 90 then (some 3) else (if x3 ≥ 97 then (if x3 ≤ 122 then (some 3) else (if x3 = 95 then (some 3) else (if x3 ≥ 128 then (some 3) else (some 4)))) else (if x3 = 95 then (some 3) else (if x3 ≥ 128 then (some 3) else (some 4))))) else (if x3 ≥ 97 then (if x3 ≤ 122 then (some 3) else (if x3 = 95 then (some 3) else (if x3 ≥ 128 then (some 3) else (some 4)))) else (if x3 = 95 then (some 3) else (if x3 ≥ 128 then (some 3) else (some 4)))))) else (if x3 ≥ 65 then (if x3 ≤ 90 then (some 3) else (if x3 ≥ 97 then (if x3 ≤ 122 then (some 3) else (if x3 = 95 then (some 3) else (if x3 ≥ 128 then (some 3) else (some 4)))) else (if x3 = 95 then (some 3) else (if x3 ≥ 128 then (some 3) else (some 4))))) else (if x3 ≥ 97 then (if x3 ≤ 122 then (some 3) else (if x3 = 95 then (some 3) else (if x3 ≥ 128 then (some 3) else (some 4)))) else (if x3 = 95 then (some 3) else (if x3 ≥ 128 then (some 3) else (some 4))))))
end
def galleyref22_Kind.f (k : Nat) (a0_0 : Int) (a0_1 : Int) (a0_2 : Bool) : Option (Int) := if a0_2 = true then (if a0_0 = 32 then (galleyref22_Kind.j0 k a0_0 true) else (galleyref22_Kind.j0 k a0_0 (a0_0 == 9))) else (some 5)
theorem galleyref22_Kind.mono_l : ∀ k, (∀ y0 y1, LeO (galleyref22_Kind.j0 k y0 y1) (galleyref22_Kind.j0 (k + 1) y0 y1)) ∧ (∀ y0 y1, LeO (galleyref22_Kind.j1 k y0 y1) (galleyref22_Kind.j1 (k + 1) y0 y1))
 | 0 => ⟨fun _ _ r h => by simp [galleyref22_Kind.j0] at h, fun _ _ r h => by simp [galleyref22_Kind.j1] at h⟩
 | k + 1 => by
  obtain ⟨ih0, ih1⟩ := galleyref22_Kind.mono_l k
  refine ⟨?_, ?_⟩
  ·intro y0 y1
   unfold galleyref22_Kind.j0
   repeat' first
   | (with_reducible exact ih0 _ _)
   | (with_reducible exact ih1 _ _)
   | (with_reducible exact LeO.refl _)
   | (with_reducible exact LeO.none _)
   | (with_reducible refine LeO.ite ?_ ?_)
   | (with_reducible refine LeO.bind ?_ (fun _ => ?_))
   | exact ih0 _ _
   | exact ih1 _ _
   | exact LeO.none _
   | refine LeO.ite ?_ ?_
   | refine LeO.bind ?_ (fun _ => ?_)
  ·intro y0 y1
   unfold galleyref22_Kind.j1
   repeat' first
   | (with_reducible exact ih0 _ _)
   | (with_reducible exact ih1 _ _)
   | (with_reducible exact LeO.refl _)
   | (with_reducible exact LeO.none _)
   | (with_reducible refine LeO.ite ?_ ?_)
   | (with_reducible refine LeO.bind ?_ (fun _ => ?_))
   | exact ih0 _ _
   | exact ih1 _ _
   | exact LeO.none _
   | refine LeO.ite ?_ ?_
   | refine LeO.bind ?_ (fun _ => ?_)
theorem galleyref22_Kind.mono : ∀ a0 a1 a2 k, LeO (galleyref22_Kind.f k a0 a1 a2) (galleyref22_Kind.f (k + 1) a0 a1 a2) := by
 intro a0 a1 a2 k
 obtain ⟨ih0, ih1⟩ := galleyref22_Kind.mono_l k
 unfold galleyref22_Kind.f
 repeat' first
   | (with_reducible exact ih0 _ _)
   | (with_reducible exact ih1 _ _)
   | (with_reducible exact LeO.refl _)
   | (with_reducible exact LeO.none _)
   | (with_reducible refine LeO.ite ?_ ?_)
   | (with_reducible refine LeO.bind ?_ (fun _ => ?_))
   | exact ih0 _ _
   | exact ih1 _ _
   | exact LeO.none _
   | refine LeO.ite ?_ ?_
   | refine LeO.bind ?_ (fun _ => ?_)
set_option maxHeartbeats 8000000 in
set_option maxRecDepth 100000 in
theorem galleyref22_Kind.calls (k : Nat) (a0_0 : Int) (a0_1 : Int) (a0_2 : Bool) (r : Int) (w : World) (h : galleyref22_Kind.f k a0_0 a0_1 a0_2 = some r) :
  Calls Tryd.prog 15 #[.agg #[.int .i32 a0_0, .int .i64 a0_1, .bool a0_2]] w fun e w' => e = .returned (.int .i64 r) ∧ Below w.heap.size w w' := by
 have hu23 := Tryd.underlying23
 have HB := Aside0.mk (Below.refl w.heap.size w)
 have H : (if a0_2 = true then (if a0_0 = 32 then (galleyref22_Kind.j0 k a0_0 true) else (galleyref22_Kind.j0 k a0_0 (a0_0 == 9))) else (some 5)) = some r := h
 clear h
 by_cases c2 : a0_2 = true
 ·subst c2
  have H1 : (if a0_0 = 32 then (galleyref22_Kind.j0 k a0_0 true) else (galleyref22_Kind.j0 k a0_0 (a0_0 == 9))) = some r := by rw [if_pos rfl] at H; exact H
  clear H
  have H := H1
  clear H1
  have HC3 := Aside0.mk H
  clear H
  go_enter Tryd.func15, Tryd.ntmps15
  go_upto_region 4 with (first | ((with_reducible refine gate_dst (N := 1) rfl ?_); refine box_event ?hg (N := 1) ?hd (cs := #[.int .i32 a0_0, .int .i64 a0_1, .bool true]) (t := 23) ?hr ?_; (case hd => rfl); (case hg => rfl); (case hr => first | (go_simp; done) | (go_simp; rfl)); intro gb185 hg w4 hbox hb; have n0_ := Aside0.mk (below_step (by repeat (first | (with_reducible first | exact HB.out | apply below_alloc | apply pw_below_drewN | apply below_drew1) | exact HB.out)) hb); have n1_ := Aside0.mk (hbox); have n2_ := Aside0.mk ((by rw [hg]; exact (below_size (by repeat (first | (with_reducible first | exact HB.out | apply below_alloc | apply pw_below_drewN | apply below_drew1) | exact HB.out))) : w.heap.size ≤ gb185)); have n3_ := Aside0.mk ((by rw [hg]; exact (below_size (by repeat (first | (with_reducible first | exact HB.out | apply below_alloc | apply pw_below_drewN | apply below_drew1) | exact HB.out))) : w.heap.size ≤ gb185)); clear HB; have HB := n0_; have BK185 := n1_; have GW185 := n2_; have GE185 := n3_; clear n0_ n1_ n2_ n3_; clear hb hbox hg; have hcz5_0 : w4.cell? ⟨gb185, 0, none⟩ = some (.int .i32 a0_0) := (blk_cell BK185.out 0).trans rfl; have hcz5_1 : w4.cell? ⟨gb185, 1, none⟩ = some (.int .i64 a0_1) := (blk_cell BK185.out 1).trans rfl; have hcz5_2 : w4.cell? ⟨gb185, 2, none⟩ = some (.bool true) := (blk_cell BK185.out 2).trans rfl; have hfz5_0 := blk_frozen BK185.out 0; have hfz5_1 := blk_frozen BK185.out 1; have hfz5_2 := blk_frozen BK185.out 2))
  (try simp only [Act.put, List.setIfInBounds_toArray, List.set_cons_zero, List.set_cons_succ])
  go_cut [14] (fun v14 wc => ∃ (kq : Nat) (x14_2 : Bool), v14 = .bool x14_2 ∧ Aside0 (galleyref22_Kind.j0 kq a0_0 x14_2 = some r) ∧ Aside0 (kq ≤ k) ∧ Aside0 (wc.heap[gb185]? = some (.cells #[.int .i32 a0_0, .int .i64 a0_1, .bool true] 23 (0, 0))) ∧ Aside0 (Below w.heap.size w wc))
  case first =>
   have H := HC3.out
   clear HC3
   by_cases c6 : a0_0 = 32
   ·rw [if_pos c6] at H
    have c6b0 : (a0_0 == 32) = true := beq_iff_eq.mpr c6
    have c6b1 : (a0_0 != 32) = false := bne_eq_false_iff_eq.mpr c6
    clear c6
    (first | rw [c6b0] | (simp only [i64_w, i32_w]; rw [c6b0]) | skip)
    have H' := Aside0.mk H
    clear H
    go_wp2
    go_meet
    case rel => exact ⟨_, (true), (by first | rfl | (simp; done) | (simp [*]; done)), H', ⟨by first | omega | exact Nat.le_refl _⟩, ⟨by (with_reducible repeat (first | refine blk_drewN ?_ _ | refine blk_drew ?_ | refine blk_alloc ?_ _)); exact BK185.out⟩, ⟨by repeat (first | (with_reducible first | exact HB.out | apply below_alloc | apply pw_below_drewN | apply below_drew1 | refine below_set ?_ GE185.out) | exact HB.out)⟩⟩
   ·rw [if_neg c6] at H
    have c6b0 : (a0_0 == 32) = false := beq_eq_false_iff_ne.mpr c6
    have c6b1 : (a0_0 != 32) = true := bne_iff_ne.mpr c6
    (first | rw [c6b0] | (simp only [i64_w, i32_w]; rw [c6b0]) | skip)
    have H' := Aside0.mk H
    clear H
    go_wp2
    go_meet
    case rel => exact ⟨_, ((a0_0 == 9)), (by first | rfl | (simp; done) | (simp [*]; done)), H', ⟨by first | omega | exact Nat.le_refl _⟩, ⟨by (with_reducible repeat (first | refine blk_drewN ?_ _ | refine blk_drew ?_ | refine blk_alloc ?_ _)); exact BK185.out⟩, ⟨by repeat (first | (with_reducible first | exact HB.out | apply below_alloc | apply pw_below_drewN | apply below_drew1 | refine below_set ?_ GE185.out) | exact HB.out)⟩⟩
  case rest =>
   clear HC3
   try clear c1
   try clear c2
   try clear p2
   try clear c6
   try clear c6b0
   try clear c6b1
   try clear hcz5_0
   try clear hcz5_1
   try clear hcz5_2
   try clear hfz5_0
   try clear hfz5_1
   try clear hfz5_2
   obtain ⟨kq, x14_2, rfl, HA, HJ2, BK185, HB⟩ := hcut
   cases kq with
   | zero => exact absurd HA.out (by simp [galleyref22_Kind.j0])
   | succ kj2 =>
    have H := HA.out
    clear HA
    simp only [galleyref22_Kind.j0] at H
    by_cases c7 : x14_2 = true
    ·subst c7
     have H1 : (some 1) = some r := by rw [if_pos rfl] at H; exact H
     clear H
     have H := H1
     clear H1
     obtain rfl := Option.some.inj H
     go_wp2
     go_ret
     exact ⟨by first | rfl | (simp [errW_none, errW_some] <;> rfl) | (simp [*, errW_none, errW_some] <;> rfl), by repeat (first | (with_reducible first | exact HB.out | apply below_alloc | apply pw_below_drewN | apply below_drew1 | refine below_set ?_ GE185.out) | exact HB.out)⟩
    ·replace c7 := Bool.eq_false_iff.mpr c7
     subst c7
     have H1 : (if a0_0 = 10 then (galleyref22_Kind.j1 kj2 a0_0 true) else (galleyref22_Kind.j1 kj2 a0_0 (a0_0 == 13))) = some r := by rw [if_neg (show ¬ (false = true) by decide)] at H; exact H
     clear H
     have H := H1
     clear H1
     have HC8 := Aside0.mk H
     clear H
     go_upto_region 6 with (fail)
     go_cut [20] (fun v20 wc => ∃ (kq : Nat) (x20_7 : Bool), v20 = .bool x20_7 ∧ Aside0 (galleyref22_Kind.j1 kq a0_0 x20_7 = some r) ∧ Aside0 (kq ≤ kj2) ∧ Aside0 (wc.heap[gb185]? = some (.cells #[.int .i32 a0_0, .int .i64 a0_1, .bool true] 23 (0, 0))) ∧ Aside0 (Below w.heap.size w wc))
     case first =>
      have H := HC8.out
      clear HC8
      by_cases c9 : a0_0 = 10
      ·rw [if_pos c9] at H
       have c9b0 : (a0_0 == 10) = true := beq_iff_eq.mpr c9
       have c9b1 : (a0_0 != 10) = false := bne_eq_false_iff_eq.mpr c9
       clear c9
       (first | rw [c9b0] | (simp only [i64_w, i32_w]; rw [c9b0]) | skip)
       have H' := Aside0.mk H
       clear H
       go_wp2
       go_meet
       case rel => exact ⟨_, (true), (by first | rfl | (simp; done) | (simp [*]; done)), H', ⟨by have := HJ2.out; first | omega | exact Nat.le_refl _⟩, ⟨by (with_reducible repeat (first | refine blk_drewN ?_ _ | refine blk_drew ?_ | refine blk_alloc ?_ _)); exact BK185.out⟩, ⟨by repeat (first | (with_reducible first | exact HB.out | apply below_alloc | apply pw_below_drewN | apply below_drew1 | refine below_set ?_ GE185.out) | exact HB.out)⟩⟩
      ·rw [if_neg c9] at H
       have c9b0 : (a0_0 == 10) = false := beq_eq_false_iff_ne.mpr c9
       have c9b1 : (a0_0 != 10) = true := bne_iff_ne.mpr c9
       (first | rw [c9b0] | (simp only [i64_w, i32_w]; rw [c9b0]) | skip)
       have H' := Aside0.mk H
       clear H
       go_wp2
       go_meet
       case rel => exact ⟨_, ((a0_0 == 13)), (by first | rfl | (simp; done) | (simp [*]; done)), H', ⟨by have := HJ2.out; first | omega | exact Nat.le_refl _⟩, ⟨by (with_reducible repeat (first | refine blk_drewN ?_ _ | refine blk_drew ?_ | refine blk_alloc ?_ _)); exact BK185.out⟩, ⟨by repeat (first | (with_reducible first | exact HB.out | apply below_alloc | apply pw_below_drewN | apply below_drew1 | refine below_set ?_ GE185.out) | exact HB.out)⟩⟩
     case rest =>
      clear HC8
      try clear c1
      try clear c2
      try clear p2
      try clear c6
      try clear c6b0
      try clear c6b1
      try clear c7
      try clear c9
      try clear c9b0
      try clear c9b1
      try clear hcz5_0
      try clear hcz5_1
      try clear hcz5_2
      try clear hfz5_0
      try clear hfz5_1
      try clear hfz5_2
      try clear p2
      obtain ⟨kq, x20_7, rfl, HA, HJ7, BK185, HB⟩ := hcut
      cases kq with
      | zero => exact absurd HA.out (by simp [galleyref22_Kind.j1])
      | succ kj7 =>
       have H := HA.out
       clear HA
       simp only [galleyref22_Kind.j1] at H
       by_cases c10 : x20_7 = true
       ·subst c10
        have H1 : (some 2) = some r := by rw [if_pos rfl] at H; exact H
        clear H
        have H := H1
        clear H1
        obtain rfl := Option.some.inj H
        go_wp2
        go_ret
        exact ⟨by first | rfl | (simp [errW_none, errW_some] <;> rfl) | (simp [*, errW_none, errW_some] <;> rfl), by repeat (first | (with_reducible first | exact HB.out | apply below_alloc | apply pw_below_drewN | apply below_drew1 | refine below_set ?_ GE185.out) | exact HB.out)⟩
       ·replace c10 := Bool.eq_false_iff.mpr c10
        subst c10
        have H1 : (if a0_0 ≥ 48 then (if a0_0 ≤ 57 then (some 3) else (if a0_0 ≥ 65 then (if a0_0 ≤ 90 then (some 3) else (if a0_0 ≥ 97 then (if a0_0 ≤ 122 then (some 3) else (if a0_0 = 95 then (some 3) else (if a0_0 ≥ 128 then (some 3) else (some 4)))) else (if a0_0 = 95 then (some 3) else (if a0_0 ≥ 128 then (some 3) else (some 4))))) else (if a0_0 ≥ 97 then (if a0_0 ≤ 122 then (some 3) else (if a0_0 = 95 then (some 3) else (if a0_0 ≥ 128 then (some 3) else (some 4)))) else (if a0_0 = 95 then (some 3) else (if a0_0 ≥ 128 then (some 3) else (some 4)))))) else (if a0_0 ≥ 65 then (if a0_0 ≤ 90 then (some 3) else (if a0_0 ≥ 97 then (if a0_0 ≤ 122 then (some 3) else (if a0_0 = 95 then (some 3) else (if a0_0 ≥ 128 then (some 3) else (some 4)))) else (if a0_0 = 95 then (some 3) else (if a0_0 ≥ 128 then (some 3) else (some 4))))) else (if a0_0 ≥ 97 then (if a0_0 ≤ 122 then (some 3) else (if a0_0 = 95 then (some 3) else (if a0_0 ≥ 128 then (some 3) else (some 4)))) else (if a0_0 = 95 then (some 3) else (if a0_0 ≥ 128 then (some 3) else (some 4)))))) = some r := by rw [if_neg (show ¬ (false = true) by decide)] at H; exact H
        clear H
        have H := H1
        clear H1
        by_cases c11 : a0_0 ≥ 48
        ·rw [if_pos c11] at H
         have c11b0 : decide (48 ≤ a0_0) = true := decide_eq_true c11
         clear c11
         by_cases c12 : a0_0 ≤ 57
         ·rw [if_pos c12] at H
          have c12b0 : decide (a0_0 ≤ 57) = true := decide_eq_true c12
          clear c12
          obtain rfl := Option.some.inj H
          go_wp2
          go_ret
          exact ⟨by first | rfl | (simp [errW_none, errW_some] <;> rfl) | (simp [*, errW_none, errW_some] <;> rfl), by repeat (first | (with_reducible first | exact HB.out | apply below_alloc | apply pw_below_drewN | apply below_drew1 | refine below_set ?_ GE185.out) | exact HB.out)⟩
         ·rw [if_neg c12] at H
          have c12b0 : decide (a0_0 ≤ 57) = false := decide_eq_false c12
          clear c12
          by_cases c13 : a0_0 ≥ 65
          ·rw [if_pos c13] at H
           have c13b0 : decide (65 ≤ a0_0) = true := decide_eq_true c13
           clear c13
           by_cases c14 : a0_0 ≤ 90
           ·rw [if_pos c14] at H
            have c14b0 : decide (a0_0 ≤ 90) = true := decide_eq_true c14
            clear c14
            obtain rfl := Option.some.inj H
            go_wp2
            go_ret
            exact ⟨by first | rfl | (simp [errW_none, errW_some] <;> rfl) | (simp [*, errW_none, errW_some] <;> rfl), by repeat (first | (with_reducible first | exact HB.out | apply below_alloc | apply pw_below_drewN | apply below_drew1 | refine below_set ?_ GE185.out) | exact HB.out)⟩
           ·rw [if_neg c14] at H
            have c14b0 : decide (a0_0 ≤ 90) = false := decide_eq_false c14
            clear c14
            by_cases c15 : a0_0 ≥ 97
            ·rw [if_pos c15] at H
             have c15b0 : decide (97 ≤ a0_0) = true := decide_eq_true c15
             clear c15
             by_cases c16 : a0_0 ≤ 122
             ·rw [if_pos c16] at H
              have c16b0 : decide (a0_0 ≤ 122) = true := decide_eq_true c16
              clear c16
              obtain rfl := Option.some.inj H
              go_wp2
              go_ret
              exact ⟨by first | rfl | (simp [errW_none, errW_some] <;> rfl) | (simp [*, errW_none, errW_some] <;> rfl), by repeat (first | (with_reducible first | exact HB.out | apply below_alloc | apply pw_below_drewN | apply below_drew1 | refine below_set ?_ GE185.out) | exact HB.out)⟩
             ·rw [if_neg c16] at H
              have c16b0 : decide (a0_0 ≤ 122) = false := decide_eq_false c16
              clear c16
              by_cases c17 : a0_0 = 95
              ·rw [if_pos c17] at H
               have c17b0 : (a0_0 == 95) = true := beq_iff_eq.mpr c17
               have c17b1 : (a0_0 != 95) = false := bne_eq_false_iff_eq.mpr c17
               clear c17
               obtain rfl := Option.some.inj H
               go_wp2
               go_ret
               exact ⟨by first | rfl | (simp [errW_none, errW_some] <;> rfl) | (simp [*, errW_none, errW_some] <;> rfl), by repeat (first | (with_reducible first | exact HB.out | apply below_alloc | apply pw_below_drewN | apply below_drew1 | refine below_set ?_ GE185.out) | exact HB.out)⟩
              ·rw [if_neg c17] at H
               have c17b0 : (a0_0 == 95) = false := beq_eq_false_iff_ne.mpr c17
               have c17b1 : (a0_0 != 95) = true := bne_iff_ne.mpr c17
               by_cases c18 : a0_0 ≥ 128
               ·rw [if_pos c18] at H
                have c18b0 : decide (128 ≤ a0_0) = true := decide_eq_true c18
                clear c18
                obtain rfl := Option.some.inj H
                go_wp2
                go_ret
                exact ⟨by first | rfl | (simp [errW_none, errW_some] <;> rfl) | (simp [*, errW_none, errW_some] <;> rfl), by repeat (first | (with_reducible first | exact HB.out | apply below_alloc | apply pw_below_drewN | apply below_drew1 | refine below_set ?_ GE185.out) | exact HB.out)⟩
               ·rw [if_neg c18] at H
                have c18b0 : decide (128 ≤ a0_0) = false := decide_eq_false c18
                clear c18
                obtain rfl := Option.some.inj H
                go_wp2
                go_ret
                exact ⟨by first | rfl | (simp [errW_none, errW_some] <;> rfl) | (simp [*, errW_none, errW_some] <;> rfl), by repeat (first | (with_reducible first | exact HB.out | apply below_alloc | apply pw_below_drewN | apply below_drew1 | refine below_set ?_ GE185.out) | exact HB.out)⟩
            ·rw [if_neg c15] at H
             have c15b0 : decide (97 ≤ a0_0) = false := decide_eq_false c15
             clear c15
             by_cases c19 : a0_0 = 95
             ·rw [if_pos c19] at H
              have c19b0 : (a0_0 == 95) = true := beq_iff_eq.mpr c19
              have c19b1 : (a0_0 != 95) = false := bne_eq_false_iff_eq.mpr c19
              clear c19
              obtain rfl := Option.some.inj H
              go_wp2
              go_ret
              exact ⟨by first | rfl | (simp [errW_none, errW_some] <;> rfl) | (simp [*, errW_none, errW_some] <;> rfl), by repeat (first | (with_reducible first | exact HB.out | apply below_alloc | apply pw_below_drewN | apply below_drew1 | refine below_set ?_ GE185.out) | exact HB.out)⟩
             ·rw [if_neg c19] at H
              have c19b0 : (a0_0 == 95) = false := beq_eq_false_iff_ne.mpr c19
              have c19b1 : (a0_0 != 95) = true := bne_iff_ne.mpr c19
              by_cases c20 : a0_0 ≥ 128
              ·rw [if_pos c20] at H
               have c20b0 : decide (128 ≤ a0_0) = true := decide_eq_true c20
               clear c20
               obtain rfl := Option.some.inj H
               go_wp2
               go_ret
               exact ⟨by first | rfl | (simp [errW_none, errW_some] <;> rfl) | (simp [*, errW_none, errW_some] <;> rfl), by repeat (first | (with_reducible first | exact HB.out | apply below_alloc | apply pw_below_drewN | apply below_drew1 | refine below_set ?_ GE185.out) | exact HB.out)⟩
              ·rw [if_neg c20] at H
               have c20b0 : decide (128 ≤ a0_0) = false := decide_eq_false c20
               clear c20
               obtain rfl := Option.some.inj H
               go_wp2
               go_ret
               exact ⟨by first | rfl | (simp [errW_none, errW_some] <;> rfl) | (simp [*, errW_none, errW_some] <;> rfl), by repeat (first | (with_reducible first | exact HB.out | apply below_alloc | apply pw_below_drewN | apply below_drew1 | refine below_set ?_ GE185.out) | exact HB.out)⟩
          ·rw [if_neg c13] at H
           have c13b0 : decide (65 ≤ a0_0) = false := decide_eq_false c13
           clear c13
           by_cases c21 : a0_0 ≥ 97
           ·rw [if_pos c21] at H
            have c21b0 : decide (97 ≤ a0_0) = true := decide_eq_true c21
            clear c21
            by_cases c22 : a0_0 ≤ 122
            ·rw [if_pos c22] at H
             have c22b0 : decide (a0_0 ≤ 122) = true := decide_eq_true c22
             clear c22
             obtain rfl := Option.some.inj H
             go_wp2
             go_ret
             exact ⟨by first | rfl | (simp [errW_none, errW_some] <;> rfl) | (simp [*, errW_none, errW_some] <;> rfl), by repeat (first | (with_reducible first | exact HB.out | apply below_alloc | apply pw_below_drewN | apply below_drew1 | refine below_set ?_ GE185.out) | exact HB.out)⟩
            ·rw [if_neg c22] at H
             have c22b0 : decide (a0_0 ≤ 122) = false := decide_eq_false c22
             clear c22
             by_cases c23 : a0_0 = 95
             ·rw [if_pos c23] at H
              have c23b0 : (a0_0 == 95) = true := beq_iff_eq.mpr c23
              have c23b1 : (a0_0 != 95) = false := bne_eq_false_iff_eq.mpr c23
              clear c23
              obtain rfl := Option.some.inj H
              go_wp2
              go_ret
              exact ⟨by first | rfl | (simp [errW_none, errW_some] <;> rfl) | (simp [*, errW_none, errW_some] <;> rfl), by repeat (first | (with_reducible first | exact HB.out | apply below_alloc | apply pw_below_drewN | apply below_drew1 | refine below_set ?_ GE185.out) | exact HB.out)⟩
             ·rw [if_neg c23] at H
              have c23b0 : (a0_0 == 95) = false := beq_eq_false_iff_ne.mpr c23
              have c23b1 : (a0_0 != 95) = true := bne_iff_ne.mpr c23
              by_cases c24 : a0_0 ≥ 128
              ·rw [if_pos c24] at H
               have c24b0 : decide (128 ≤ a0_0) = true := decide_eq_true c24
               clear c24
               obtain rfl := Option.some.inj H
               go_wp2
               go_ret
               exact ⟨by first | rfl | (simp [errW_none, errW_some] <;> rfl) | (simp [*, errW_none, errW_some] <;> rfl), by repeat (first | (with_reducible first | exact HB.out | apply below_alloc | apply pw_below_drewN | apply below_drew1 | refine below_set ?_ GE185.out) | exact HB.out)⟩
              ·rw [if_neg c24] at H
               have c24b0 : decide (128 ≤ a0_0) = false := decide_eq_false c24
               clear c24
               obtain rfl := Option.some.inj H
               go_wp2
               go_ret
               exact ⟨by first | rfl | (simp [errW_none, errW_some] <;> rfl) | (simp [*, errW_none, errW_some] <;> rfl), by repeat (first | (with_reducible first | exact HB.out | apply below_alloc | apply pw_below_drewN | apply below_drew1 | refine below_set ?_ GE185.out) | exact HB.out)⟩
           ·rw [if_neg c21] at H
            have c21b0 : decide (97 ≤ a0_0) = false := decide_eq_false c21
            clear c21
            by_cases c25 : a0_0 = 95
            ·rw [if_pos c25] at H
             have c25b0 : (a0_0 == 95) = true := beq_iff_eq.mpr c25
             have c25b1 : (a0_0 != 95) = false := bne_eq_false_iff_eq.mpr c25
             clear c25
             obtain rfl := Option.some.inj H
             go_wp2
             go_ret
             exact ⟨by first | rfl | (simp [errW_none, errW_some] <;> rfl) | (simp [*, errW_none, errW_some] <;> rfl), by repeat (first | (with_reducible first | exact HB.out | apply below_alloc | apply pw_below_drewN | apply below_drew1 | refine below_set ?_ GE185.out) | exact HB.out)⟩
            ·rw [if_neg c25] at H
             have c25b0 : (a0_0 == 95) = false := beq_eq_false_iff_ne.mpr c25
             have c25b1 : (a0_0 != 95) = true := bne_iff_ne.mpr c25
             by_cases c26 : a0_0 ≥ 128
             ·rw [if_pos c26] at H
              have c26b0 : decide (128 ≤ a0_0) = true := decide_eq_true c26
              clear c26
              obtain rfl := Option.some.inj H
              go_wp2
              go_ret
              exact ⟨by first | rfl | (simp [errW_none, errW_some] <;> rfl) | (simp [*, errW_none, errW_some] <;> rfl), by repeat (first | (with_reducible first | exact HB.out | apply below_alloc | apply pw_below_drewN | apply below_drew1 | refine below_set ?_ GE185.out) | exact HB.out)⟩
             ·rw [if_neg c26] at H
              have c26b0 : decide (128 ≤ a0_0) = false := decide_eq_false c26
              clear c26
              obtain rfl := Option.some.inj H
              go_wp2
              go_ret
              exact ⟨by first | rfl | (simp [errW_none, errW_some] <;> rfl) | (simp [*, errW_none, errW_some] <;> rfl), by repeat (first | (with_reducible first | exact HB.out | apply below_alloc | apply pw_below_drewN | apply below_drew1 | refine below_set ?_ GE185.out) | exact HB.out)⟩
        ·rw [if_neg c11] at H
         have c11b0 : decide (48 ≤ a0_0) = false := decide_eq_false c11
         clear c11
         by_cases c27 : a0_0 ≥ 65
         ·rw [if_pos c27] at H
          have c27b0 : decide (65 ≤ a0_0) = true := decide_eq_true c27
          clear c27
          by_cases c28 : a0_0 ≤ 90
          ·rw [if_pos c28] at H
           have c28b0 : decide (a0_0 ≤ 90) = true := decide_eq_true c28
           clear c28
           obtain rfl := Option.some.inj H
           go_wp2
           go_ret
           exact ⟨by first | rfl | (simp [errW_none, errW_some] <;> rfl) | (simp [*, errW_none, errW_some] <;> rfl), by repeat (first | (with_reducible first | exact HB.out | apply below_alloc | apply pw_below_drewN | apply below_drew1 | refine below_set ?_ GE185.out) | exact HB.out)⟩
          ·rw [if_neg c28] at H
           have c28b0 : decide (a0_0 ≤ 90) = false := decide_eq_false c28
           clear c28
           by_cases c29 : a0_0 ≥ 97
           ·rw [if_pos c29] at H
            have c29b0 : decide (97 ≤ a0_0) = true := decide_eq_true c29
            clear c29
            by_cases c30 : a0_0 ≤ 122
            ·rw [if_pos c30] at H
             have c30b0 : decide (a0_0 ≤ 122) = true := decide_eq_true c30
             clear c30
             obtain rfl := Option.some.inj H
             go_wp2
             go_ret
             exact ⟨by first | rfl | (simp [errW_none, errW_some] <;> rfl) | (simp [*, errW_none, errW_some] <;> rfl), by repeat (first | (with_reducible first | exact HB.out | apply below_alloc | apply pw_below_drewN | apply below_drew1 | refine below_set ?_ GE185.out) | exact HB.out)⟩
            ·rw [if_neg c30] at H
             have c30b0 : decide (a0_0 ≤ 122) = false := decide_eq_false c30
             clear c30
             by_cases c31 : a0_0 = 95
             ·rw [if_pos c31] at H
              have c31b0 : (a0_0 == 95) = true := beq_iff_eq.mpr c31
              have c31b1 : (a0_0 != 95) = false := bne_eq_false_iff_eq.mpr c31
              clear c31
              obtain rfl := Option.some.inj H
              go_wp2
              go_ret
              exact ⟨by first | rfl | (simp [errW_none, errW_some] <;> rfl) | (simp [*, errW_none, errW_some] <;> rfl), by repeat (first | (with_reducible first | exact HB.out | apply below_alloc | apply pw_below_drewN | apply below_drew1 | refine below_set ?_ GE185.out) | exact HB.out)⟩
             ·rw [if_neg c31] at H
              have c31b0 : (a0_0 == 95) = false := beq_eq_false_iff_ne.mpr c31
              have c31b1 : (a0_0 != 95) = true := bne_iff_ne.mpr c31
              by_cases c32 : a0_0 ≥ 128
              ·rw [if_pos c32] at H
               have c32b0 : decide (128 ≤ a0_0) = true := decide_eq_true c32
               clear c32
               obtain rfl := Option.some.inj H
               go_wp2
               go_ret
               exact ⟨by first | rfl | (simp [errW_none, errW_some] <;> rfl) | (simp [*, errW_none, errW_some] <;> rfl), by repeat (first | (with_reducible first | exact HB.out | apply below_alloc | apply pw_below_drewN | apply below_drew1 | refine below_set ?_ GE185.out) | exact HB.out)⟩
              ·rw [if_neg c32] at H
               have c32b0 : decide (128 ≤ a0_0) = false := decide_eq_false c32
               clear c32
               obtain rfl := Option.some.inj H
               go_wp2
               go_ret
               exact ⟨by first | rfl | (simp [errW_none, errW_some] <;> rfl) | (simp [*, errW_none, errW_some] <;> rfl), by repeat (first | (with_reducible first | exact HB.out | apply below_alloc | apply pw_below_drewN | apply below_drew1 | refine below_set ?_ GE185.out) | exact HB.out)⟩
           ·rw [if_neg c29] at H
            have c29b0 : decide (97 ≤ a0_0) = false := decide_eq_false c29
            clear c29
            by_cases c33 : a0_0 = 95
            ·rw [if_pos c33] at H
             have c33b0 : (a0_0 == 95) = true := beq_iff_eq.mpr c33
             have c33b1 : (a0_0 != 95) = false := bne_eq_false_iff_eq.mpr c33
             clear c33
             obtain rfl := Option.some.inj H
             go_wp2
             go_ret
             exact ⟨by first | rfl | (simp [errW_none, errW_some] <;> rfl) | (simp [*, errW_none, errW_some] <;> rfl), by repeat (first | (with_reducible first | exact HB.out | apply below_alloc | apply pw_below_drewN | apply below_drew1 | refine below_set ?_ GE185.out) | exact HB.out)⟩
            ·rw [if_neg c33] at H
             have c33b0 : (a0_0 == 95) = false := beq_eq_false_iff_ne.mpr c33
             have c33b1 : (a0_0 != 95) = true := bne_iff_ne.mpr c33
             by_cases c34 : a0_0 ≥ 128
             ·rw [if_pos c34] at H
              have c34b0 : decide (128 ≤ a0_0) = true := decide_eq_true c34
              clear c34
              obtain rfl := Option.some.inj H
              go_wp2
              go_ret
              exact ⟨by first | rfl | (simp [errW_none, errW_some] <;> rfl) | (simp [*, errW_none, errW_some] <;> rfl), by repeat (first | (with_reducible first | exact HB.out | apply below_alloc | apply pw_below_drewN | apply below_drew1 | refine below_set ?_ GE185.out) | exact HB.out)⟩
             ·rw [if_neg c34] at H
              have c34b0 : decide (128 ≤ a0_0) = false := decide_eq_false c34
              clear c34
              obtain rfl := Option.some.inj H
              go_wp2
              go_ret
              exact ⟨by first | rfl | (simp [errW_none, errW_some] <;> rfl) | (simp [*, errW_none, errW_some] <;> rfl), by repeat (first | (with_reducible first | exact HB.out | apply below_alloc | apply pw_below_drewN | apply below_drew1 | refine below_set ?_ GE185.out) | exact HB.out)⟩
         ·rw [if_neg c27] at H
          have c27b0 : decide (65 ≤ a0_0) = false := decide_eq_false c27
          clear c27
          by_cases c35 : a0_0 ≥ 97
          ·rw [if_pos c35] at H
           have c35b0 : decide (97 ≤ a0_0) = true := decide_eq_true c35
           clear c35
           by_cases c36 : a0_0 ≤ 122
           ·rw [if_pos c36] at H
            have c36b0 : decide (a0_0 ≤ 122) = true := decide_eq_true c36
            clear c36
            obtain rfl := Option.some.inj H
            go_wp2
            go_ret
            exact ⟨by first | rfl | (simp [errW_none, errW_some] <;> rfl) | (simp [*, errW_none, errW_some] <;> rfl), by repeat (first | (with_reducible first | exact HB.out | apply below_alloc | apply pw_below_drewN | apply below_drew1 | refine below_set ?_ GE185.out) | exact HB.out)⟩
           ·rw [if_neg c36] at H
            have c36b0 : decide (a0_0 ≤ 122) = false := decide_eq_false c36
            clear c36
            by_cases c37 : a0_0 = 95
            ·rw [if_pos c37] at H
             have c37b0 : (a0_0 == 95) = true := beq_iff_eq.mpr c37
             have c37b1 : (a0_0 != 95) = false := bne_eq_false_iff_eq.mpr c37
             clear c37
             obtain rfl := Option.some.inj H
             go_wp2
             go_ret
             exact ⟨by first | rfl | (simp [errW_none, errW_some] <;> rfl) | (simp [*, errW_none, errW_some] <;> rfl), by repeat (first | (with_reducible first | exact HB.out | apply below_alloc | apply pw_below_drewN | apply below_drew1 | refine below_set ?_ GE185.out) | exact HB.out)⟩
            ·rw [if_neg c37] at H
             have c37b0 : (a0_0 == 95) = false := beq_eq_false_iff_ne.mpr c37
             have c37b1 : (a0_0 != 95) = true := bne_iff_ne.mpr c37
             by_cases c38 : a0_0 ≥ 128
             ·rw [if_pos c38] at H
              have c38b0 : decide (128 ≤ a0_0) = true := decide_eq_true c38
              clear c38
              obtain rfl := Option.some.inj H
              go_wp2
              go_ret
              exact ⟨by first | rfl | (simp [errW_none, errW_some] <;> rfl) | (simp [*, errW_none, errW_some] <;> rfl), by repeat (first | (with_reducible first | exact HB.out | apply below_alloc | apply pw_below_drewN | apply below_drew1 | refine below_set ?_ GE185.out) | exact HB.out)⟩
             ·rw [if_neg c38] at H
              have c38b0 : decide (128 ≤ a0_0) = false := decide_eq_false c38
              clear c38
              obtain rfl := Option.some.inj H
              go_wp2
              go_ret
              exact ⟨by first | rfl | (simp [errW_none, errW_some] <;> rfl) | (simp [*, errW_none, errW_some] <;> rfl), by repeat (first | (with_reducible first | exact HB.out | apply below_alloc | apply pw_below_drewN | apply below_drew1 | refine below_set ?_ GE185.out) | exact HB.out)⟩
          ·rw [if_neg c35] at H
           have c35b0 : decide (97 ≤ a0_0) = false := decide_eq_false c35
           clear c35
           by_cases c39 : a0_0 = 95
           ·rw [if_pos c39] at H
            have c39b0 : (a0_0 == 95) = true := beq_iff_eq.mpr c39
            have c39b1 : (a0_0 != 95) = false := bne_eq_false_iff_eq.mpr c39
            clear c39
            obtain rfl := Option.some.inj H
            go_wp2
            go_ret
            exact ⟨by first | rfl | (simp [errW_none, errW_some] <;> rfl) | (simp [*, errW_none, errW_some] <;> rfl), by repeat (first | (with_reducible first | exact HB.out | apply below_alloc | apply pw_below_drewN | apply below_drew1 | refine below_set ?_ GE185.out) | exact HB.out)⟩
           ·rw [if_neg c39] at H
            have c39b0 : (a0_0 == 95) = false := beq_eq_false_iff_ne.mpr c39
            have c39b1 : (a0_0 != 95) = true := bne_iff_ne.mpr c39
            by_cases c40 : a0_0 ≥ 128
            ·rw [if_pos c40] at H
             have c40b0 : decide (128 ≤ a0_0) = true := decide_eq_true c40
             clear c40
             obtain rfl := Option.some.inj H
             go_wp2
             go_ret
             exact ⟨by first | rfl | (simp [errW_none, errW_some] <;> rfl) | (simp [*, errW_none, errW_some] <;> rfl), by repeat (first | (with_reducible first | exact HB.out | apply below_alloc | apply pw_below_drewN | apply below_drew1 | refine below_set ?_ GE185.out) | exact HB.out)⟩
            ·rw [if_neg c40] at H
             have c40b0 : decide (128 ≤ a0_0) = false := decide_eq_false c40
             clear c40
             obtain rfl := Option.some.inj H
             go_wp2
             go_ret
             exact ⟨by first | rfl | (simp [errW_none, errW_some] <;> rfl) | (simp [*, errW_none, errW_some] <;> rfl), by repeat (first | (with_reducible first | exact HB.out | apply below_alloc | apply pw_below_drewN | apply below_drew1 | refine below_set ?_ GE185.out) | exact HB.out)⟩
 ·replace c2 := Bool.eq_false_iff.mpr c2
  subst c2
  have H1 : (some 5) = some r := by rw [if_neg (show ¬ (false = true) by decide)] at H; exact H
  clear H
  have H := H1
  clear H1
  obtain rfl := Option.some.inj H
  go_enter Tryd.func15, Tryd.ntmps15
  go_wp2_with (first | ((with_reducible refine gate_dst (N := 1) rfl ?_); refine box_event ?hg (N := 1) ?hd (cs := #[.int .i32 a0_0, .int .i64 a0_1, .bool false]) (t := 23) ?hr ?_; (case hd => rfl); (case hg => rfl); (case hr => first | (go_simp; done) | (go_simp; rfl)); intro gb185 hg w41 hbox hb; have n0_ := Aside0.mk (below_step (by repeat (first | (with_reducible first | exact HB.out | apply below_alloc | apply pw_below_drewN | apply below_drew1) | exact HB.out)) hb); have n1_ := Aside0.mk (hbox); have n2_ := Aside0.mk ((by rw [hg]; exact (below_size (by repeat (first | (with_reducible first | exact HB.out | apply below_alloc | apply pw_below_drewN | apply below_drew1) | exact HB.out))) : w.heap.size ≤ gb185)); have n3_ := Aside0.mk ((by rw [hg]; exact (below_size (by repeat (first | (with_reducible first | exact HB.out | apply below_alloc | apply pw_below_drewN | apply below_drew1) | exact HB.out))) : w.heap.size ≤ gb185)); clear HB; have HB := n0_; have BK185 := n1_; have GW185 := n2_; have GE185 := n3_; clear n0_ n1_ n2_ n3_; clear hb hbox hg; have hcz42_0 : w41.cell? ⟨gb185, 0, none⟩ = some (.int .i32 a0_0) := (blk_cell BK185.out 0).trans rfl; have hcz42_1 : w41.cell? ⟨gb185, 1, none⟩ = some (.int .i64 a0_1) := (blk_cell BK185.out 1).trans rfl; have hcz42_2 : w41.cell? ⟨gb185, 2, none⟩ = some (.bool false) := (blk_cell BK185.out 2).trans rfl; have hfz42_0 := blk_frozen BK185.out 0; have hfz42_1 := blk_frozen BK185.out 1; have hfz42_2 := blk_frozen BK185.out 2))
  go_ret
  exact ⟨by first | rfl | (simp [errW_none, errW_some] <;> rfl) | (simp [*, errW_none, errW_some] <;> rfl), by repeat (first | (with_reducible first | exact HB.out | apply below_alloc | apply pw_below_drewN | apply below_drew1 | refine below_set ?_ GE185.out) | exact HB.out)⟩

end Go.Proofs.YtijbkiajhicooaaDoor.PW

namespace Go.Proofs.YtijbkiajhicooaaDoor.PW
open Go.RowKit Go.Proofs.YtijbkiajhicooaaDoorW.PrintWords Go.Proofs.YtijbkiajhicooaaDoorW.PrintLast Go.Proofs.YtijbkiajhicooaaDoorW.PrintMore
attribute [local go_sem] max2_int min2_int max_two min_two max_three min_three max_four min_four   -- for this text's walks alone
set_option linter.unusedVariables false
set_option linter.unusedSimpArgs false

def galleylaw22_WordsKinds.f (k : Nat) (a0_0 : Int) (a0_1 : Int) (a0_2 : Bool) : Option (Bool) := (galleylaw22_wakes.f).bind fun t187 => (if t187 = true then ((words_Kind.f k a0_0 a0_1 a0_2).bind fun t188 => ((galleyref22_Kind.f k a0_0 a0_1 a0_2).bind fun t189 => (some (t188 == t189)))) else (some false))
set_option maxHeartbeats 8000000 in
set_option maxRecDepth 100000 in
theorem galleylaw22_WordsKinds.calls (k : Nat) (a0_0 : Int) (a0_1 : Int) (a0_2 : Bool) (r : Bool) (w : World) (hL : LaidBad w) (h : galleylaw22_WordsKinds.f k a0_0 a0_1 a0_2 = some r) :
  Calls Tryd.prog 3 #[.agg #[.int .i32 a0_0, .int .i64 a0_1, .bool a0_2]] w fun e w' => e = .returned (.bool r) ∧ Below w.heap.size w w' := by
 have hu23 := Tryd.underlying23
 have HB := Aside0.mk (Below.refl w.heap.size w)
 have HLB := Aside0.mk hL
 clear hL
 have H : ((galleylaw22_wakes.f).bind fun t187 => (if t187 = true then ((words_Kind.f k a0_0 a0_1 a0_2).bind fun t188 => ((galleyref22_Kind.f k a0_0 a0_1 a0_2).bind fun t189 => (some (t188 == t189)))) else (some false))) = some r := h
 clear h
 replace H := Option.bind_eq_some_iff.mp H
 obtain ⟨t187, A20, H⟩ := H
 replace H : (if t187 = true then ((words_Kind.f k a0_0 a0_1 a0_2).bind fun t188 => ((galleyref22_Kind.f k a0_0 a0_1 a0_2).bind fun t189 => (some (t188 == t189)))) else (some false)) = some r := H
 have A2 := Aside0.mk A20
 clear A20
 by_cases c3 : t187 = true
 ·subst c3
  have H1 : ((words_Kind.f k a0_0 a0_1 a0_2).bind fun t188 => ((galleyref22_Kind.f k a0_0 a0_1 a0_2).bind fun t189 => (some (t188 == t189)))) = some r := by rw [if_pos rfl] at H; exact H
  clear H
  have H := H1
  clear H1
  replace H := Option.bind_eq_some_iff.mp H
  obtain ⟨t188, A40, H⟩ := H
  replace H : ((galleyref22_Kind.f k a0_0 a0_1 a0_2).bind fun t189 => (some (t188 == t189))) = some r := H
  have A4 := Aside0.mk A40
  clear A40
  replace H := Option.bind_eq_some_iff.mp H
  obtain ⟨t189, A50, H⟩ := H
  replace H : (some (t188 == t189)) = some r := H
  have A5 := Aside0.mk A50
  clear A50
  obtain rfl := Option.some.inj H
  go_enter Tryd.func3, Tryd.ntmps3
  try go_wp2_with (first | ((with_reducible refine gate_dst (N := 1) rfl ?_); refine box_event ?hg (N := 1) ?hd (cs := #[.int .i32 a0_0, .int .i64 a0_1, .bool a0_2]) (t := 23) ?hr ?_; (case hd => rfl); (case hg => rfl); (case hr => first | (go_simp; done) | (go_simp; rfl)); intro gb186 hg w6 hbox hb; have n0_ := Aside0.mk (below_step (by repeat (first | (with_reducible first | exact HB.out | apply below_alloc | apply pw_below_drewN | apply below_drew1) | exact HB.out)) hb); have n1_ := Aside0.mk (hbox); have n2_ := Aside0.mk ((by rw [hg]; exact (below_size (by repeat (first | (with_reducible first | exact HB.out | apply below_alloc | apply pw_below_drewN | apply below_drew1) | exact HB.out))) : w.heap.size ≤ gb186)); have n3_ := Aside0.mk ((by rw [hg]; exact (below_size (by repeat (first | (with_reducible first | exact HB.out | apply below_alloc | apply pw_below_drewN | apply below_drew1) | exact HB.out))) : w.heap.size ≤ gb186)); clear HB; have HB := n0_; have BK186 := n1_; have GW186 := n2_; have GE186 := n3_; clear n0_ n1_ n2_ n3_; clear hb hbox hg) | ((with_reducible refine gate_callee (f := 13) rfl ?_); refine goesL_ (some 3) rfl rfl Tryd.func13 (by kernel_rfl) rfl #[] rfl (by (try simp only [List.map_toArray, List.map_cons, List.map_nil]); first | done | rfl | (simp only [List.length_drop, List.length_take]; rfl)) ?_; (with_reducible refine (galleylaw22_wakes.calls  true _ ?side1 A2.out).mono ?_); (case side1 => exact laid_below HLB.out (by repeat (first | (with_reducible first | exact HB.out | apply below_alloc | apply pw_below_drewN | apply below_drew1 | refine below_set ?_ GE186.out) | exact HB.out))); rintro e w7 ⟨rfl, hb⟩; refine ⟨_, rfl, ?_⟩; have n0_ := Aside0.mk (blk_below (g := gb186) (o := .cells #[.int .i32 a0_0, .int .i64 a0_1, .bool a0_2] 23 (0, 0)) (by (with_reducible repeat (first | refine blk_drewN ?_ _ | refine blk_drew ?_ | refine blk_alloc ?_ _)); exact BK186.out) hb); have n1_ := Aside0.mk (below_step (by repeat (first | (with_reducible first | exact HB.out | apply below_alloc | apply pw_below_drewN | apply below_drew1 | refine below_set ?_ GE186.out) | exact HB.out)) hb); clear BK186; clear HB; have BK186 := n0_; have HB := n1_; clear n0_ n1_; (try clear hb); (try clear hb2); (try clear hk); (try clear hi)))
  have n0_ := Aside0.mk (blk_drew BK186.out)
  have n1_ := Aside0.mk (below_drew1 HB.out)
  clear BK186 HB
  have BK186 := n0_
  have HB := n1_
  clear n0_ n1_
  refine start_ (n := 6) (S := fun w' => w'.cell? ⟨gb186, 0, none⟩ = some (.int .i32 a0_0) ∧ w'.cell? ⟨gb186, 1, none⟩ = some (.int .i64 a0_1) ∧ w'.cell? ⟨gb186, 2, none⟩ = some (.bool a0_2)) (ds := []) #[false, false, false, false, false, false] (by kernel_rfl) rfl rfl ⟨(blk_cell BK186.out 0).trans rfl, (blk_cell BK186.out 1).trans rfl, (blk_cell BK186.out 2).trans rfl⟩ (fun hHeld => ?_)
  generalize w7.drew = w8 at BK186 HB hHeld ⊢
  refine take_ (i := 0) (N := some 5) (v := ?_) (a' := ?_) #[true, false, false, false, false, false] rfl rfl (by kernel_rfl) (fun _ _ _ h => h) (Or.inl ⟨by rfl, ?_⟩) hHeld ?_ ?_
  rotate_left
  ·rintro w' ⟨s0, s1, s2⟩
   go_simp
   with_reducible rfl
  rotate_left
  ·simp only [Act.put, List.setIfInBounds_toArray, List.set_cons_zero, List.set_cons_succ, i64_w, i32_w]
   rfl
  refine take_ (i := 2) (N := some 7) (v := ?_) (a' := ?_) #[true, false, true, false, false, false] rfl rfl (by kernel_rfl) (fun _ _ _ h => h) (Or.inl ⟨by rfl, ?_⟩) hHeld ?_ ?_
  rotate_left
  ·rintro w' ⟨s0, s1, s2⟩
   go_simp
   with_reducible rfl
  rotate_left
  ·simp only [Act.put, List.setIfInBounds_toArray, List.set_cons_zero, List.set_cons_succ, i64_w, i32_w]
   rfl
  refine one_ (i := 1) (N := some 6) #[true, true, true, false, false, false] rfl rfl (by kernel_rfl) (by decide) (fun K hK => ?_)
  refine goes_ Tryd.func14 (by kernel_rfl) rfl #[.agg #[.int .i32 a0_0, .int .i64 a0_1, .bool a0_2]] (by rfl) rfl rfl (by (try simp only [List.map_toArray, List.map_cons, List.map_nil]); first | done | rfl | (simp only [List.length_drop, List.length_take]; rfl)) ?_
  with_reducible refine (words_Kind.calls k a0_0 a0_1 a0_2 t188 _ A4.out).mono ?_
  rintro e w9 ⟨rfl, hb⟩
  refine ⟨_, rfl, ?_⟩
  have n0_ := Aside0.mk (blk_below (g := gb186) (o := .cells #[.int .i32 a0_0, .int .i64 a0_1, .bool a0_2] 23 (0, 0)) (by (with_reducible repeat (first | refine blk_drewN ?_ _ | refine blk_drew ?_ | refine blk_alloc ?_ _)); exact BK186.out) hb)
  have n1_ := Aside0.mk (below_step (by repeat (first | (with_reducible first | exact HB.out | apply below_alloc | apply pw_below_drewN | apply below_drew1 | refine below_set ?_ GE186.out) | exact HB.out)) hb)
  clear BK186 HB
  have BK186 := n0_
  have HB := n1_
  clear n0_ n1_
  (try clear hb)
  (try clear hb2)
  (try clear hk)
  (try clear hi)
  refine hK.out _ _ ⟨(blk_cell BK186.out 0).trans rfl, (blk_cell BK186.out 1).trans rfl, (blk_cell BK186.out 2).trans rfl⟩ (fun hHeld => ?_)
  clear hK K
  refine norm_ (a' := ?_) ?_ ?_
  rotate_left
  ·show Act.put _ (some 6) _ = _
   simp only [Act.put, List.setIfInBounds_toArray, List.set_cons_zero, List.set_cons_succ, i64_w, i32_w]
   rfl
  refine one_ (i := 3) (N := some 8) #[true, true, true, true, false, false] rfl rfl (by kernel_rfl) (by decide) (fun K hK => ?_)
  refine goes_ Tryd.func15 (by kernel_rfl) rfl #[.agg #[.int .i32 a0_0, .int .i64 a0_1, .bool a0_2]] (by rfl) rfl rfl (by (try simp only [List.map_toArray, List.map_cons, List.map_nil]); first | done | rfl | (simp only [List.length_drop, List.length_take]; rfl)) ?_
  with_reducible refine (galleyref22_Kind.calls k a0_0 a0_1 a0_2 t189 _ A5.out).mono ?_
  rintro e w10 ⟨rfl, hb⟩
  refine ⟨_, rfl, ?_⟩
  have n0_ := Aside0.mk (blk_below (g := gb186) (o := .cells #[.int .i32 a0_0, .int .i64 a0_1, .bool a0_2] 23 (0, 0)) (by (with_reducible repeat (first | refine blk_drewN ?_ _ | refine blk_drew ?_ | refine blk_alloc ?_ _)); exact BK186.out) hb)
  have n1_ := Aside0.mk (below_step (by repeat (first | (with_reducible first | exact HB.out | apply below_alloc | apply pw_below_drewN | apply below_drew1 | refine below_set ?_ GE186.out) | exact HB.out)) hb)
  clear BK186 HB
  have BK186 := n0_
  have HB := n1_
  clear n0_ n1_
  (try clear hb)
  (try clear hb2)
  (try clear hk)
  (try clear hi)
  refine hK.out _ _ ⟨(blk_cell BK186.out 0).trans rfl, (blk_cell BK186.out 1).trans rfl, (blk_cell BK186.out 2).trans rfl⟩ (fun hHeld => ?_)
  clear hK K
  refine norm_ (a' := ?_) ?_ ?_
  rotate_left
  ·show Act.put _ (some 8) _ = _
   simp only [Act.put, List.setIfInBounds_toArray, List.set_cons_zero, List.set_cons_succ, i64_w, i32_w]
   rfl
  refine pure_ (i := 4) (N := some 9) (v := ?_) (a' := ?_) #[true, true, true, true, true, false] rfl rfl (by kernel_rfl) (fun _ _ _ h => h) (Or.inl ⟨by rfl, ?_⟩) ?_ ?_
  rotate_left
  ·intro w'
   go_simp
   with_reducible rfl
  rotate_left
  ·simp only [Act.put, List.setIfInBounds_toArray, List.set_cons_zero, List.set_cons_succ, i64_w, i32_w]
   rfl
  refine pure_ (i := 5) (N := some 2) (v := ?_) (a' := ?_) #[true, true, true, true, true, true] rfl rfl (by kernel_rfl) (fun _ _ _ h => h) (Or.inl ⟨by rfl, ?_⟩) ?_ ?_
  rotate_left
  ·intro w'
   go_simp
   with_reducible rfl
  rotate_left
  ·simp only [Act.put, List.setIfInBounds_toArray, List.set_cons_zero, List.set_cons_succ, i64_w, i32_w]
   rfl
  refine done_ (by kernel_rfl) ?_
  try go_wp2
  go_ret
  exact ⟨by first | rfl | (simp [errW_none, errW_some] <;> rfl) | (simp [*, errW_none, errW_some] <;> rfl), by repeat (first | (with_reducible first | exact HB.out | apply below_alloc | apply pw_below_drewN | apply below_drew1 | refine below_set ?_ GE186.out) | exact HB.out)⟩
 ·replace c3 := Bool.eq_false_iff.mpr c3
  subst c3
  have H1 : (some false) = some r := by rw [if_neg (show ¬ (false = true) by decide)] at H; exact H
  clear H
  have H := H1
  clear H1
  obtain rfl := Option.some.inj H
  go_enter Tryd.func3, Tryd.ntmps3
  go_wp2_with (first | ((with_reducible refine gate_dst (N := 1) rfl ?_); refine box_event ?hg (N := 1) ?hd (cs := #[.int .i32 a0_0, .int .i64 a0_1, .bool a0_2]) (t := 23) ?hr ?_; (case hd => rfl); (case hg => rfl); (case hr => first | (go_simp; done) | (go_simp; rfl)); intro gb186 hg w11 hbox hb; have n0_ := Aside0.mk (below_step (by repeat (first | (with_reducible first | exact HB.out | apply below_alloc | apply pw_below_drewN | apply below_drew1) | exact HB.out)) hb); have n1_ := Aside0.mk (hbox); have n2_ := Aside0.mk ((by rw [hg]; exact (below_size (by repeat (first | (with_reducible first | exact HB.out | apply below_alloc | apply pw_below_drewN | apply below_drew1) | exact HB.out))) : w.heap.size ≤ gb186)); have n3_ := Aside0.mk ((by rw [hg]; exact (below_size (by repeat (first | (with_reducible first | exact HB.out | apply below_alloc | apply pw_below_drewN | apply below_drew1) | exact HB.out))) : w.heap.size ≤ gb186)); clear HB; have HB := n0_; have BK186 := n1_; have GW186 := n2_; have GE186 := n3_; clear n0_ n1_ n2_ n3_; clear hb hbox hg) | ((with_reducible refine gate_callee (f := 13) rfl ?_); refine goesL_ (some 3) rfl rfl Tryd.func13 (by kernel_rfl) rfl #[] rfl (by (try simp only [List.map_toArray, List.map_cons, List.map_nil]); first | done | rfl | (simp only [List.length_drop, List.length_take]; rfl)) ?_; (with_reducible refine (galleylaw22_wakes.calls  false _ ?side1 A2.out).mono ?_); (case side1 => exact laid_below HLB.out (by repeat (first | (with_reducible first | exact HB.out | apply below_alloc | apply pw_below_drewN | apply below_drew1 | refine below_set ?_ GE186.out) | exact HB.out))); rintro e w12 ⟨rfl, hb⟩; refine ⟨_, rfl, ?_⟩; have n0_ := Aside0.mk (blk_below (g := gb186) (o := .cells #[.int .i32 a0_0, .int .i64 a0_1, .bool a0_2] 23 (0, 0)) (by (with_reducible repeat (first | refine blk_drewN ?_ _ | refine blk_drew ?_ | refine blk_alloc ?_ _)); exact BK186.out) hb); have n1_ := Aside0.mk (below_step (by repeat (first | (with_reducible first | exact HB.out | apply below_alloc | apply pw_below_drewN | apply below_drew1 | refine below_set ?_ GE186.out) | exact HB.out)) hb); clear BK186; clear HB; have BK186 := n0_; have HB := n1_; clear n0_ n1_; (try clear hb); (try clear hb2); (try clear hk); (try clear hi)))
  go_ret
  exact ⟨by first | rfl | (simp [errW_none, errW_some] <;> rfl) | (simp [*, errW_none, errW_some] <;> rfl), by repeat (first | (with_reducible first | exact HB.out | apply below_alloc | apply pw_below_drewN | apply below_drew1 | refine below_set ?_ GE186.out) | exact HB.out)⟩

end Go.Proofs.YtijbkiajhicooaaDoor.PW

namespace Go.Proofs.YtijbkiajhicooaaDoor.PW
open Go.RowKit Go.Proofs.YtijbkiajhicooaaDoorW.PrintWords Go.Proofs.YtijbkiajhicooaaDoorW.PrintLast Go.Proofs.YtijbkiajhicooaaDoorW.PrintMore
attribute [local go_sem] max2_int min2_int max_two min_two max_three min_three max_four min_four   -- for this text's walks alone
set_option linter.unusedVariables false
set_option linter.unusedSimpArgs false

def Bytes (l : List Int) : Prop := ∀ x ∈ l, 0 ≤ x ∧ x ≤ 255
theorem Bytes.drop {l : List Int} (h : Bytes l) (n : Nat) : Bytes (l.drop n) := fun x hx => h x (List.mem_of_mem_drop hx)
end Go.Proofs.YtijbkiajhicooaaDoor.PW

namespace Go.Proofs.YtijbkiajhicooaaDoor.PW
open Go.RowKit Go.Proofs.YtijbkiajhicooaaDoorW.PrintWords Go.Proofs.YtijbkiajhicooaaDoorW.PrintLast Go.Proofs.YtijbkiajhicooaaDoorW.PrintMore
attribute [local go_sem] max2_int min2_int max_two min_two max_three min_three max_four min_four   -- for this text's walks alone
set_option linter.unusedVariables false
set_option linter.unusedSimpArgs false

def Ev {β : Type} (g : Nat → Option β) (v : β) : Prop := ∃ K, ∀ k, K ≤ k → g k = some v
theorem Ev.of_eq {β : Type} {g : Nat → Option β} {v : β} (h : ∀ k, g k = some v) : Ev g v := ⟨0, fun k _ => h k⟩
theorem Ev.bind {α β : Type} {g : Nat → Option α} {h : Nat → α → Option β} {v : α} {u : β} (hg : Ev g v) (hh : Ev (fun k => h k v) u) : Ev (fun k => (g k).bind (h k)) u := by
 obtain ⟨K, hK⟩ := hg
 obtain ⟨M, hM⟩ := hh
 refine ⟨max K M, fun k hk => ?_⟩
 show (g k).bind (h k) = some u
 rw [hK k (by omega)]
 exact hM k (by omega)
theorem Ev.some {β : Type} {g : Nat → Option β} {v : β} (h : Ev g v) : ∃ k, g k = some v := by
 obtain ⟨K, hK⟩ := h
 exact ⟨K, hK K (Nat.le_refl _)⟩
end Go.Proofs.YtijbkiajhicooaaDoor.PW

namespace Go.Proofs.YtijbkiajhicooaaDoor.PW
open Go.RowKit Go.Proofs.YtijbkiajhicooaaDoorW.PrintWords Go.Proofs.YtijbkiajhicooaaDoorW.PrintLast Go.Proofs.YtijbkiajhicooaaDoorW.PrintMore
attribute [local go_sem] max2_int min2_int max_two min_two max_three min_three max_four min_four   -- for this text's walks alone
set_option linter.unusedVariables false
set_option linter.unusedSimpArgs false

theorem ref_kind (r x : Int) (w : Bool) : galleyref22_Kind.f 4 r x w = some (kindOf r w) := by
 unfold galleyref22_Kind.f kindOf
 cases w with
 | false => rfl
 | true =>
  simp only [if_true, galleyref22_Kind.j0, galleyref22_Kind.j1]
  by_cases h1 : r = 32
  ·simp [h1]
  ·by_cases h2 : r = 9
   ·simp [h2]
   ·rw [if_neg h1]
    have e9 : (r == 9) = false := by simpa using h2
    rw [e9, if_neg (show ¬ (r = 32 ∨ r = 9) by omega)]
    simp only [Bool.false_eq_true, if_false]
    by_cases h3 : r = 10
    ·simp [h3]
    ·by_cases h4 : r = 13
     ·simp [h4]
     ·rw [if_neg h3]
      have e13 : (r == 13) = false := by simpa using h4
      rw [e13, if_neg (show ¬ (r = 10 ∨ r = 13) by omega)]
      simp only [Bool.false_eq_true, if_false]
      by_cases h5 : (48 ≤ r ∧ r ≤ 57) ∨ r = 95 ∨ (65 ≤ r ∧ r ≤ 90) ∨ (97 ≤ r ∧ r ≤ 122) ∨ 128 ≤ r
      ·rw [if_pos h5]
       repeat' split
       all_goals first | rfl | (exfalso; omega)
      ·rw [if_neg h5]
       repeat' split
       all_goals first | rfl | (exfalso; omega)
theorem ref_kind_ev (r x : Int) (w : Bool) : Ev (fun k => galleyref22_Kind.f k r x w) (kindOf r w) := by
 refine ⟨4, fun k hk => ?_⟩
 obtain ⟨m, rfl⟩ : ∃ m, k = 4 + m := ⟨k - 4, by omega⟩
 induction m with
 | zero => exact ref_kind r x w
 | succ m ih => exact galleyref22_Kind.mono r x w (4 + m) _ (ih (by omega))

end Go.Proofs.YtijbkiajhicooaaDoor.PW

namespace Go.Proofs.YtijbkiajhicooaaDoor.PW
open Go.RowKit Go.Proofs.YtijbkiajhicooaaDoorW.PrintWords Go.Proofs.YtijbkiajhicooaaDoorW.PrintLast Go.Proofs.YtijbkiajhicooaaDoorW.PrintMore
attribute [local go_sem] max2_int min2_int max_two min_two max_three min_three max_four min_four   -- for this text's walks alone
set_option linter.unusedVariables false
set_option linter.unusedSimpArgs false

theorem words_kind_ev (r x : Int) (w : Bool) : Ev (fun k => words_Kind.f k r x w) (kindOf r w) := by
 refine ⟨3, fun k hk => ?_⟩
 obtain ⟨m, rfl⟩ : ∃ m, k = 3 + m := ⟨k - 3, by omega⟩
 induction m with
 | zero => exact words_Kind.is r x w
 | succ m ih => exact words_Kind.mono r x w (3 + m) _ (ih (by omega))
end Go.Proofs.YtijbkiajhicooaaDoor.PW
namespace Go.Proofs.YtijbkiajhicooaaDoor.Pure
open Go.Proofs.YtijbkiajhicooaaDoor.PW Go.RowKit
theorem WordsKinds (a b : Int) (c : Bool) (_ha : (Lit.int .i32 a).wf = true) (_hb : (Lit.int .i64 b).wf = true) : ∃ k, galleylaw22_WordsKinds.f k a b c = some true := by
 refine Ev.some (Ev.bind (Ev.of_eq fun _ => rfl) ?_)
 refine Ev.bind (words_kind_ev a b c) ?_
 refine Ev.bind (ref_kind_ev a b c) ?_
 refine Ev.of_eq fun _ => ?_
 simp
end Go.Proofs.YtijbkiajhicooaaDoor.Pure
namespace Go.Proofs.YtijbkiajhicooaaDoor.PW

end Go.Proofs.YtijbkiajhicooaaDoor.PW

