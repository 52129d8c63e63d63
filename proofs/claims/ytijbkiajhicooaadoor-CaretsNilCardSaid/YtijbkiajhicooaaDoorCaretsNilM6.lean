-- Written by merge.py, a program of this session's: PWx23 PWx24 PWx25 PWx1 PWx26 PWx27 PWx48 PureCaretsNil
import Derived.Test.YtijbkiajhicooaaDoorCaretsNilM1
import Derived.Test.YtijbkiajhicooaaDoorCaretsNilM5
import Derived.Lib.SlBytesConst
namespace Go.Proofs.YtijbkiajhicooaaDoor.PW
open Go.RowKit Go.Proofs.YtijbkiajhicooaaDoorW.PrintWords Go.Proofs.YtijbkiajhicooaaDoorW.PrintLast Go.Proofs.YtijbkiajhicooaaDoorW.PrintMore
attribute [local go_sem] max2_int min2_int max_two min_two max_three min_three max_four min_four   -- for this text's walks alone
set_option linter.unusedVariables false
set_option linter.unusedSimpArgs false

/-- Each head goes somewhere. -/
def movedL (tof : Int → Option Int) (ext : Bool) : List S100 → Option (List S100)
 | [] => some []
 | c :: t => (tof c.f1).bind fun h => (movedL tof ext t).bind fun r => some (⟨if ext = true then c.f0 else h, h⟩ :: r)
theorem movedL_length (tof : Int → Option Int) (ext : Bool) : ∀ (l r : List S100), movedL tof ext l = some r → r.length = l.length := by
 intro l
 induction l with
 | nil => intro r h; cases h; rfl
 | cons c t ih =>
  intro r h
  simp only [movedL] at h
  obtain ⟨x, _, h⟩ := Option.bind_eq_some_iff.mp h
  obtain ⟨q, hq, h⟩ := Option.bind_eq_some_iff.mp h
  cases h
  rw [List.length_cons, List.length_cons, ih q hq]
theorem movedL_at (tof : Int → Option Int) (ext : Bool) : ∀ (l r : List S100) (i : Nat), movedL tof ext l = some r → i < l.length → ∃ h, tof (rd_T100 l (i : Int)).f1 = some h ∧ r.take (i + 1) = r.take i ++ [⟨if ext = true then (rd_T100 l (i : Int)).f0 else h, h⟩] := by
 intro l
 induction l with
 | nil => intro r i _ h; simp at h
 | cons c t ih =>
  intro r i h hi
  simp only [movedL] at h
  obtain ⟨x, hx, h⟩ := Option.bind_eq_some_iff.mp h
  obtain ⟨q, hq, h⟩ := Option.bind_eq_some_iff.mp h
  cases h
  cases i with
  | zero => exact ⟨x, hx, rfl⟩
  | succ i =>
   obtain ⟨h1, h2, h3⟩ := ih q i hq (by simpa using hi)
   have e : rd_T100 (c :: t) ((i + 1 : Nat) : Int) = rd_T100 t (i : Int) := by
    unfold rd_T100
    simp
   rw [e]
   exact ⟨h1, h2, by rw [List.take_succ_cons, h3, List.take_succ_cons, List.cons_append]⟩
set_option maxRecDepth 100000 in
set_option maxHeartbeats 4000000 in
theorem moved_calls (k : Nat) (ext : Bool) (g : Nat) (s : ByteArray) (l : List S100) (tof : Int → Option Int) (gf : FuncId) (lb : Array Value) (l' r : List S100) (w : World) (hs : IsSet w g s l) (hL : LaidBad w) (hsz : s.size ≤ 4398046511103) (hll : l.length ≤ 1099511627776)
  (eg : ∀ args W, (callFunc gf args).run Tryd.prog W = .ok (.enter gf args) W)
  (hto : ∀ (W : World) (h q : Int), Below w.heap.size w W → tof h = some q → Calls Tryd.prog gf (#[.int .i64 h] ++ lb) W fun e W' => e = .returned (.int .i64 q) ∧ Below W.heap.size W W')
  (hm : movedL tof ext l = some l') (hst : carets_settled.f k s l' = some (s, r)) :
  Calls Tryd.prog 53 #[.pointer (some ⟨g, 0, none⟩), .bool ext, .func (.func gf) #[] lb] w fun e w' => ∃ g_ : Nat, e = .returned (.pointer (some ⟨g_, 0, none⟩)) ∧ IsSet w' g_ s r ∧ w.heap.size ≤ g_ ∧ Below w.heap.size w w' := by
 have HML := Aside0.mk (movedL_length tof ext l l' hm)
 obtain ⟨A0, c0, h1, h2, h3⟩ := hs
 have HB0 := Aside0.mk h1
 have HR := Aside0.mk h2
 have HM := Aside0.mk hm
 have HTO := Aside0.mk hto
 have HST := Aside0.mk hst
 have HLB := Aside0.mk hL
 have hu := Tryd.underlying103
 have hu2 := Tryd.underlying100
 have c0' := blk_cell h1 0
 have c1' := blk_cell h1 1
 clear h1 h2 h3 hm hto hst hL
 go_enter Tryd.func53, Tryd.ntmps53
 go_wp2
 go_loopg [7, 15] (l.length + 1) (fun kq v7 v15 W => ∃ i : Int, v15 = .int .i64 i ∧ Aside0 (0 ≤ i ∧ i ≤ (l.length : Int) ∧ (l.length : Int) < i + (kq : Int)) ∧ Aside0 (Kd.R k100 100 W w.heap.size (fun _ => True) v7 (l'.take i.toNat)) ∧ Aside0 (Below w.heap.size w W))
 case atStart => exact ⟨0, rfl, ⟨by omega, by omega, by omega⟩, ⟨Kd.R_nil _ _ _ _ _⟩, ⟨Below.refl _ w⟩⟩
 case round =>
  obtain ⟨i, rfl, HI, HO, HB⟩ := hrel
  obtain ⟨i0, i1, i2⟩ := HI.out
  cases gk with
  | zero => exfalso; simp at i2; omega
  | succ kk =>
   by_cases hlt : i < (l.length : Int)
   ·have d1 : decide (i < (l.length : Int)) = true := decide_eq_true hlt
    obtain ⟨ad, hAd, e0, e1⟩ := at_T100 (Kd.C_below HR.out HB.out) i i0 hlt
    cases hAd
    obtain ⟨q, hq, htk⟩ := movedL_at tof ext l l' i.toNat HM.out (by omega)
    rw [Int.toNat_of_nonneg i0] at hq htk
    obtain ⟨cc, hcc⟩ : ∃ cc, rd_T100 l i = cc := ⟨_, rfl⟩
    obtain ⟨f0, f1⟩ := cc
    rw [hcc] at hq htk e0 e1
    dsimp only at hq htk e0 e1
    have hw1 : wrap64 (i + 1) = i + 1 := by unfold wrap64; omega
    have htn : (i + 1).toNat = i.toNat + 1 := by omega
    have hlen : (l'.take i.toNat).length = i.toNat := by rw [List.length_take, HML.out]; omega
    have HLEN := Aside0.mk (show ((l'.take i.toNat).length + 1) * 16 ≤ 140737488355328 by omega)
    have gi0 : decide (0 ≤ i) = true := decide_eq_true i0
    replace i0 := eq_true i0
    have gi1 := eq_true hlt
    have HQ := Aside0.mk hq
    have HT := Aside0.mk htk
    have HTN := Aside0.mk htn
    clear hq htk hcc htn hlen HI
    go_wp2_with fail
    have hg2 := blk_new wr (.cells #[.int .i64 f0, .int .i64 f1] 100)
    have hb2 : Below wr.heap.size wr (wr.alloc (.cells #[.int .i64 f0, .int .i64 f1] 100)) := below_alloc (Below.refl _ _) _
    have hlt2 : wr.heap.size < (wr.alloc (.cells #[.int .i64 f0, .int .i64 f1] 100)).heap.size := by simp
    generalize wr.alloc (.cells #[.int .i64 f0, .int .i64 f1] 100) = W2 at hg2 hb2 hlt2 ⊢
    have HB2 := Aside0.mk (below_step HB.out hb2)
    have HO2 := Aside0.mk (Kd.R_below (Kd.R_elderB HO.out wr.heap.size (Nat.le_refl _)) hb2)
    refine (HTO.out W2 f1 q HB2.out HQ.out).mono ?_
    rintro e W3 ⟨rfl, hb3⟩
    have hg3 := blk_below hg2 hb3
    have HG3 := Aside0.mk hg3
    have HO3 := Aside0.mk (Kd.R_below HO2.out hb3)
    have HB3 := Aside0.mk (below_step HB2.out hb3)
    have x0 := blk_cell hg3 0
    have x1 := blk_cell hg3 1
    have y0 := blk_frozen hg3 0
    have y1 := blk_frozen hg3 1
    have HGE := Aside0.mk HB.out.size
    clear hg2 hb2 hb3 hg3 e0 e1 hlt2
    cases ext with
    | true =>
     go_wp2_with ((with_reducible refine gate_builtin (b := .append) (xs := #[.tmp 29, .tmp 31]) rfl ?_); at_builtin; refine Kd.R_append k100 (w0 := w) w.heap.size rfl (.tmp 29) (.tmp 31) 62 100 (.agg #[.int .i64 0, .int .i64 0]) 16 rfl Tryd.underlying62 info100 rfl (by decide) (by omega) u7 (l'.take i.toNat) (⟨f0, q⟩ : S100) [.int .i64 f0, .int .i64 q] (fun _ => True) (fun _ => False) rfl (by first | (go_simp; done) | (go_simp; rfl)) (k100_mkM _ _ _ (⟨f0, q⟩ : S100)) (fun _ hk => hk.elim) (fun _ _ => trivial) ?aO ?aB ?aS HLEN.out ?_; (case aO => exact Kd.R_mono (Kd.R_far (p := ⟨wr.heap.size, 1, none⟩) HO3.out (fun _ hk => hk.2) (.int .i64 q)) (fun _ _ => trivial)); (case aB => exact (HB3.out.setCell (p := ⟨wr.heap.size, 1, none⟩) HGE.out (.int .i64 q))); (case aS => exact ((HB3.out.setCell (p := ⟨wr.heap.size, 1, none⟩) HGE.out (.int .i64 q))).size); intro v5 w5 ho hb hg hat; have HO5 := Aside0.mk ho; have HB5 := Aside0.mk hb; clear ho hb hg hat)
     go_roundg kk
     case measure => omega
     case rel => exact ⟨i + 1, by first | rfl | (simp [hw1]; done), ⟨by clear hw1; simp at i0; omega, by clear hw1; omega, by clear hw1; omega⟩, ⟨by rw [HTN.out, HT.out]; exact HO5.out⟩, ⟨HB5.out⟩⟩
    | false =>
     go_wp2_with ((with_reducible refine gate_builtin (b := .append) (xs := #[.tmp 29, .tmp 31]) rfl ?_); at_builtin; refine Kd.R_append k100 (w0 := w) w.heap.size rfl (.tmp 29) (.tmp 31) 62 100 (.agg #[.int .i64 0, .int .i64 0]) 16 rfl Tryd.underlying62 info100 rfl (by decide) (by omega) u7 (l'.take i.toNat) (⟨q, q⟩ : S100) [.int .i64 q, .int .i64 q] (fun _ => True) (fun _ => False) rfl (by first | (go_simp; done) | (go_simp; rfl)) (k100_mkM _ _ _ (⟨q, q⟩ : S100)) (fun _ hk => hk.elim) (fun _ _ => trivial) ?aO ?aB ?aS HLEN.out ?_; (case aO => exact Kd.R_mono (Kd.R_far (p := ⟨wr.heap.size, 0, none⟩) (Kd.R_far (p := ⟨wr.heap.size, 1, none⟩) HO3.out (fun _ hk => hk.2) (.int .i64 q)) (fun _ hk => hk.2) (.int .i64 q)) (fun _ _ => trivial)); (case aB => exact ((HB3.out.setCell (p := ⟨wr.heap.size, 1, none⟩) HGE.out (.int .i64 q)).setCell (p := ⟨wr.heap.size, 0, none⟩) HGE.out (.int .i64 q))); (case aS => exact (((HB3.out.setCell (p := ⟨wr.heap.size, 1, none⟩) HGE.out (.int .i64 q)).setCell (p := ⟨wr.heap.size, 0, none⟩) HGE.out (.int .i64 q))).size); intro v5 w5 ho hb hg hat; have HO5 := Aside0.mk ho; have HB5 := Aside0.mk hb; clear ho hb hg hat)
     go_roundg kk
     case measure => omega
     case rel => exact ⟨i + 1, by first | rfl | (simp [hw1]; done), ⟨by clear hw1; simp at i0; omega, by clear hw1; omega, by clear hw1; omega⟩, ⟨by rw [HTN.out, HT.out]; exact HO5.out⟩, ⟨HB5.out⟩⟩
   ·have d1 : decide (i < (l.length : Int)) = false := decide_eq_false hlt
    have htk : l'.take i.toNat = l' := List.take_of_length_le (by rw [HML.out]; omega)
    have HO1 := Aside0.mk (show Kd.R k100 100 wr w.heap.size (fun _ => True) u7 l' by have := HO.out; rwa [htk] at this)
    clear HO HI i0 i1 i2 htk
    obtain ⟨Au, cu, eu⟩ := Kd.R_slice HO1.out
    subst eu
    have cz := blk_cell (blk_below HB0.out HB.out) 0
    go_wp2_with fail
    refine (carets_settled.calls k s Au cu l' s r _ (Kd.R_reads' HO1.out).2.2 (Kd.R_reads' HO1.out).2.1 (laid_below HLB.out HB.out) hsz HST.out).mono ?_
    rintro e W3 ⟨g_, rfl, hset, hg, hb3⟩
    have HS3 := Aside0.mk hset
    have HG3 := Aside0.mk (Nat.le_trans HB.out.size hg)
    have HB3 := Aside0.mk (below_step HB.out hb3)
    clear hset hg hb3
    go_wp2
    go_ret
    exact ⟨g_, rfl, HS3.out, HG3.out, HB3.out⟩

end Go.Proofs.YtijbkiajhicooaaDoor.PW

namespace Go.Proofs.YtijbkiajhicooaaDoor.PW
open Go.RowKit Go.Proofs.YtijbkiajhicooaaDoorW.PrintWords Go.Proofs.YtijbkiajhicooaaDoorW.PrintLast Go.Proofs.YtijbkiajhicooaaDoorW.PrintMore
attribute [local go_sem] max2_int min2_int max_two min_two max_three min_three max_four min_four   -- for this text's walks alone
set_option linter.unusedVariables false
set_option linter.unusedSimpArgs false

set_option maxRecDepth 100000 in
set_option maxHeartbeats 4000000 in
theorem move_calls (k : Nat) (ext : Bool) (n : Int) (g : Nat) (s : ByteArray) (l l' r : List S100) (w : World) (hs : IsSet w g s l) (hL : LaidBad w) (hn0 : -9223372036854775808 ≤ n) (hn1 : n ≤ 9223372036854775807) (hsz : s.size ≤ 4398046511103) (hll : l.length ≤ 1099511627776)
  (hm : movedL (moveK k (bytesOf s) n) ext l = some l') (hst : carets_settled.f k s l' = some (s, r)) :
  Calls Tryd.prog 33 #[.pointer (some ⟨g, 0, none⟩), .int .i64 n, .bool ext] w fun e w' => ∃ g_ : Nat, e = .returned (.pointer (some ⟨g_, 0, none⟩)) ∧ IsSet w' g_ s r ∧ w.heap.size ≤ g_ ∧ Below w.heap.size w w' := by
 obtain ⟨W1, hW1⟩ : ∃ W1, w.alloc (.cells #[.int .i64 n] 3) = W1 := ⟨_, rfl⟩
 have hb1 : Below w.heap.size w W1 := by rw [← hW1]; exact below_alloc (Below.refl _ _) _
 have hg1 : W1.heap[w.heap.size]? = some (.cells #[.int .i64 n] 3 (0, 0)) := by rw [← hW1]; exact blk_new w _
 have hcv := print_bytes (P := Tryd.prog) 9 29 5 Tryd.underlying9 Tryd.underlying29 Tryd.underlying5 s W1
 have hb2 := bytes_below (Below.refl W1.heap.size W1) (Nat.le_refl _) 5 s
 have hrd := bytes_reads W1 5 s (by omega)
 rw [← bytesOf_length s] at hcv hrd
 obtain ⟨cp, hcp⟩ : ∃ cp, grownCap W1 (bytesOf s).length 0 5 = cp := ⟨_, rfl⟩
 have hcp2 : (bytesOf s).length ≤ cp := by rw [← hcp]; exact grownCap_ge W1 _ _ _
 rw [hcp] at hcv
 obtain ⟨W2, hW2⟩ : ∃ W2, Lib.bytesWorld W1 5 s = W2 := ⟨_, rfl⟩
 rw [hW2] at hcv hb2 hrd
 obtain ⟨bw, hbw⟩ : ∃ bw, W1.heap.size = bw := ⟨_, rfl⟩
 have hsz1 := hb2.size
 rw [hbw] at hcv hrd
 obtain ⟨A0, c0, h1, h2, h3⟩ := hs
 have h1' := blk_below h1 hb1
 have z0 := blk_cell h1' 0
 have HS0 := Aside0.mk (show IsSet w g s l from ⟨A0, c0, h1, h2, h3⟩)
 have HRB := Aside0.mk (Kd.C_of_reads (d := (0 : Int)) (enc := Value.int .u8) (h1 := fun _ => rfl) hrd)
 have HCP := Aside0.mk hcp2
 have HB1 := Aside0.mk hb1
 have HB2 := Aside0.mk hb2
 have HG1 := Aside0.mk hg1
 have HM := Aside0.mk hm
 have HST := Aside0.mk hst
 have HLB := Aside0.mk hL
 have hu := Tryd.underlying103
 have hq : ∀ W : World, (binOp .eql 52 (.pointer (some ⟨g, 0, none⟩)) (.pointer none)).run Tryd.prog W = .ok (.bool false) W := fun W => by first | (simp [binOp, go_sem, run_underlying Tryd.underlying52]; done) | kernel_rfl
 have hmf : ∀ (fn : Fn) (first cap : Array Value) (W : World), (Instr.makeFunc fn first cap).run Tryd.prog W = .ok (.func fn first cap) W := by intros; rfl
 have HW1 := Aside0.mk hW1
 clear hrd hcp2 hcp hb1 hb2 hg1 hm hst hL h1 h2 h3 h1' hW2 hbw
 go_enter Tryd.func33, Tryd.ntmps33
 go_wp2_with fail
 have hg3 := blk_new W2 (.cells #[.slice (some ⟨bw, 0, none⟩) (bytesOf s).length cp] 29)
 have hb3 : Below W2.heap.size W2 (W2.alloc (.cells #[.slice (some ⟨bw, 0, none⟩) (bytesOf s).length cp] 29)) := below_alloc (Below.refl _ _) _
 generalize W2.alloc (.cells #[.slice (some ⟨bw, 0, none⟩) (bytesOf s).length cp] 29) = W3 at hg3 hb3 ⊢
 have HB13 := Aside0.mk (below_step HB2.out hb3)
 have HB03 := Aside0.mk (below_step HB1.out HB13.out)
 have HB23 := Aside0.mk hb3
 have HG3 := Aside0.mk hg3
 have hto : ∀ (W : World) (h q : Int), Below W3.heap.size W3 W → moveK k (bytesOf s) n h = some q → Calls Tryd.prog 64 (#[.int .i64 h] ++ #[.pointer (some ⟨w.heap.size, 0, none⟩), .pointer (some ⟨W2.heap.size, 0, none⟩)]) W fun e W' => e = .returned (.int .i64 q) ∧ Below W.heap.size W W' := by
  intro W h q hb hq2
  have := move1_calls k n h w.heap.size W2.heap.size (some ⟨bw, 0, none⟩) cp (bytesOf s) q W hn0 hn1 (blk_below (blk_below HG1.out HB13.out) hb) (blk_below HG3.out hb) (Kd.C_below (Kd.C_below HRB.out HB23.out) hb) HCP.out (laid_below (laid_below HLB.out HB03.out) hb) hq2
  simpa using this
 refine (moved_calls k ext g s l (moveK k (bytesOf s) n) 64 #[.pointer (some ⟨w.heap.size, 0, none⟩), .pointer (some ⟨W2.heap.size, 0, none⟩)] l' r W3 (HS0.out.below HB03.out) (laid_below HLB.out HB03.out) hsz hll (fun args W => enters_ Tryd.func64 (by kernel_rfl) rfl args W) hto HM.out HST.out).mono ?_
 rintro e W4 ⟨g_, rfl, hset, hg, hb4⟩
 have HS4 := Aside0.mk hset
 have HG4 := Aside0.mk (Nat.le_trans HB03.out.size hg)
 have HB4 := Aside0.mk (below_step HB03.out hb4)
 clear hset hg hb4 hto
 go_wp2
 go_ret
 exact ⟨g_, rfl, HS4.out, HG4.out, HB4.out⟩
set_option maxRecDepth 100000 in
theorem move_nil (n : Int) (ext : Bool) (w : World) : Calls Tryd.prog 33 #[.pointer none, .int .i64 n, .bool ext] w fun e w' => e = .returned (.pointer none) ∧ Below w.heap.size w w' := by
 have hq : ∀ W : World, (binOp .eql 52 (.pointer none) (.pointer none)).run Tryd.prog W = .ok (.bool true) W := fun W => by first | (simp [binOp, go_sem, run_underlying Tryd.underlying52]; done) | kernel_rfl
 go_enter Tryd.func33, Tryd.ntmps33
 go_wp2
 go_ret
 exact ⟨rfl, below_alloc (Below.refl _ _) _⟩

end Go.Proofs.YtijbkiajhicooaaDoor.PW

namespace Go.Proofs.YtijbkiajhicooaaDoor.PW
open Go.RowKit Go.Proofs.YtijbkiajhicooaaDoorW.PrintWords Go.Proofs.YtijbkiajhicooaaDoorW.PrintLast Go.Proofs.YtijbkiajhicooaaDoorW.PrintMore
attribute [local go_sem] max2_int min2_int max_two min_two max_three min_three max_four min_four   -- for this text's walks alone
set_option linter.unusedVariables false
set_option linter.unusedSimpArgs false

/-- What New answers: the error's number. -/
def inB (n : Int) (c : S100) : Bool := decide (0 ≤ mn c.f0 c.f1) && decide (mx c.f0 c.f1 ≤ n)
def newErr (n : Nat) (l : List S100) : Int := if l.length = 0 then 330 else if 1024 < l.length then 121 else if 268435456 < n then 5 else if l.all (inB (n : Int)) = true then 0 else 2
def NewPost (w : World) (s : ByteArray) (r : List S100) (er : Int) (e : Ending) (w' : World) : Prop :=
 Below w.heap.size w w' ∧ ((er = 0 ∧ ∃ g, e = .returned (.tuple #[.pointer (some ⟨g, 0, none⟩), .int .i64 0]) ∧ IsSet w' g s r ∧ w.heap.size ≤ g) ∨ (er ≠ 0 ∧ e = .returned (.tuple #[.pointer none, .int .i64 er])))
set_option maxRecDepth 100000 in
set_option maxHeartbeats 4000000 in
theorem new_calls (k : Nat) (A0 : Option Addr) (c0 : Nat) (b : List Int) (A1 : Option Addr) (c1 : Nat) (l : List S100) (r : List S100) (w : World) (hr0 : Kd.C (Kd.int .u8) w A0 b.length b) (hr1 : Kd.C k100 w A1 l.length l) (hc1 : l.length ≤ c1) (hL : LaidBad w)
  (hs : newErr b.length l = 0 → carets_settled.f k (strOfNums b) l = some (strOfNums b, r)) :
  Calls Tryd.prog 50 #[.slice A0 b.length c0, .slice A1 l.length c1] w (NewPost w (strOfNums b) r (newErr b.length l)) := by
 have HR0 := Aside0.mk hr0
 have HR1 := Aside0.mk hr1
 have HC1 := Aside0.mk hc1
 have HLB := Aside0.mk hL
 have HS := Aside0.mk hs
 have hmx := Kd.C_max hr0
 clear hr0 hr1 hc1 hL hs
 by_cases h1 : l.length = 0
 ·have e0 : newErr b.length l = 330 := by unfold newErr; rw [if_pos h1]
  rw [e0]
  have g1 : ((l.length : Int) == 0) = true := by simpa using h1
  have g1' : l = [] := List.length_eq_zero_iff.1 h1
  go_enter Tryd.func50, Tryd.ntmps50
  go_wp2
  refine bodyPost_ret (results_list (rs := [.tmp 4, .tmp 5]) rfl (by simp) (.tmp (.tmp .nil))) rfl ?_
  exact ⟨Below.refl _ _, .inr ⟨by decide, rfl⟩⟩
 have g1 : ((l.length : Int) == 0) = false := by simpa using h1
 have g1' : ¬ (l = []) := fun h => h1 (by rw [h]; rfl)
 by_cases h2 : 1024 < l.length
 ·have e0 : newErr b.length l = 121 := by unfold newErr; rw [if_neg h1, if_pos h2]
  rw [e0]
  have g2 : decide (1024 < l.length) = true := by simpa using h2
  have g2' : decide ((1024 : Int) < (l.length : Int)) = true := by simp; omega
  go_enter Tryd.func50, Tryd.ntmps50
  go_wp2
  refine bodyPost_ret (results_list (rs := [.tmp 4, .tmp 5]) rfl (by simp) (.tmp (.tmp .nil))) rfl ?_
  exact ⟨Below.refl _ _, .inr ⟨by decide, rfl⟩⟩
 have g2 : decide (1024 < l.length) = false := by simpa using h2
 have g2' : decide ((1024 : Int) < (l.length : Int)) = false := by simp; omega
 by_cases h3 : 268435456 < b.length
 ·have e0 : newErr b.length l = 5 := by unfold newErr; rw [if_neg h1, if_neg h2, if_pos h3]
  rw [e0]
  have g3 : decide (268435456 < b.length) = true := by simpa using h3
  have g3' : decide ((268435456 : Int) < (b.length : Int)) = true := by simp; omega
  go_enter Tryd.func50, Tryd.ntmps50
  go_wp2
  refine bodyPost_ret (results_list (rs := [.tmp 4, .tmp 5]) rfl (by simp) (.tmp (.tmp .nil))) rfl ?_
  exact ⟨Below.refl _ _, .inr ⟨by decide, rfl⟩⟩
 have g3 : decide (268435456 < b.length) = false := by simpa using h3
 have g3' : decide ((268435456 : Int) < (b.length : Int)) = false := by simp; omega
 have e3 : newErr b.length l = if l.all (inB (b.length : Int)) = true then 0 else 2 := by unfold newErr; rw [if_neg h1, if_neg h2, if_neg h3]
 have HE := Aside0.mk e3
 clear e3
 go_enter Tryd.func50, Tryd.ntmps50
 go_wp2
 go_loopg [22] (l.length + 1) (fun kq v22 W => ∃ i : Int, v22 = .int .i64 i ∧ Aside0 (0 ≤ i ∧ i ≤ (l.length : Int) ∧ (l.length : Int) < i + (kq : Int)) ∧ Aside0 ((l.take i.toNat).all (inB (b.length : Int)) = true) ∧ Aside0 (Below w.heap.size w W))
 case atStart => exact ⟨0, rfl, ⟨by omega, by omega, by omega⟩, ⟨rfl⟩, ⟨Below.refl _ w⟩⟩
 case round =>
  obtain ⟨i, rfl, HI, HA, HB⟩ := hrel
  obtain ⟨i0, i1, i2⟩ := HI.out
  cases gk with
  | zero => exfalso; simp at i2; omega
  | succ kk =>
   by_cases hlt : i < (l.length : Int)
   ·have d1 : decide (i < (l.length : Int)) = true := decide_eq_true hlt
    obtain ⟨ad, hAd, e0, e1⟩ := at_T100 (Kd.C_below HR1.out HB.out) i i0 hlt
    cases hAd
    have htk : l.take (i.toNat + 1) = l.take i.toNat ++ [rd_T100 l i] := by
     have hi : i.toNat < l.length := by omega
     rw [List.take_add_one, List.getElem?_eq_getElem hi]
     unfold rd_T100
     rw [List.getD_eq_getElem?_getD, List.getElem?_eq_getElem hi]
     rfl
    have hmem : rd_T100 l i ∈ l := by
     have hi : i.toNat < l.length := by omega
     unfold rd_T100
     rw [List.getD_eq_getElem?_getD, List.getElem?_eq_getElem hi]
     exact List.getElem_mem hi
    have HT := Aside0.mk htk
    have HM := Aside0.mk hmem
    obtain ⟨cc, hcc⟩ : ∃ cc, rd_T100 l i = cc := ⟨_, rfl⟩
    obtain ⟨f0, f1⟩ := cc
    rw [hcc] at e0 e1
    dsimp only at e0 e1
    have HCC := Aside0.mk hcc
    have hw1 : wrap64 (i + 1) = i + 1 := by unfold wrap64; omega
    have htn : (i + 1).toNat = i.toNat + 1 := by omega
    have HTN := Aside0.mk htn
    have gi0 : decide (0 ≤ i) = true := decide_eq_true i0
    replace i0 := eq_true i0
    have gi1 := eq_true hlt
    clear htk hmem hcc htn HI
    obtain ⟨lo, hlo⟩ : ∃ lo, mn f0 f1 = lo := ⟨_, rfl⟩
    obtain ⟨hi, hhi⟩ : ∃ hi, mx f0 f1 = hi := ⟨_, rfl⟩
    have HLO := Aside0.mk (show carets_low.f f0 f1 = some lo by unfold carets_low.f; rw [hlo])
    have HHI := Aside0.mk (show carets_high.f f0 f1 = some hi by unfold carets_high.f; rw [hhi])
    have HIN := Aside0.mk (show inB (b.length : Int) ⟨f0, f1⟩ = (decide (0 ≤ lo) && decide (hi ≤ (b.length : Int))) by unfold inB; rw [hlo, hhi])
    clear hlo hhi
    by_cases hl0 : lo < 0
    ·have d2 : decide (lo < 0) = true := decide_eq_true hl0
     have hbad : (if l.all (inB (b.length : Int)) = true then (0 : Int) else 2) = 2 := by
      rw [if_neg]
      intro hall
      have := List.all_eq_true.1 hall _ HM.out
      rw [HCC.out, HIN.out] at this
      simp at this
      omega
     have HE2 := Aside0.mk (HE.out.trans hbad)
     clear hbad
     go_wp2_with fail
     refine (carets_low.calls f0 f1 lo _ HLO.out).mono ?_
     rintro e W3 ⟨rfl, hb3⟩
     have HB3 := Aside0.mk (below_step (below_alloc HB.out _) hb3)
     clear hb3
     go_wp2
     refine bodyPost_ret (results_list (rs := [.tmp 4, .tmp 5]) rfl (by simp) (.tmp (.tmp .nil))) rfl ?_
     rw [HE2.out]
     exact ⟨HB3.out, .inr ⟨by decide, rfl⟩⟩
    ·have d2 : decide (lo < 0) = false := decide_eq_false hl0
     have hg2 := blk_new wr (.cells #[.int .i64 f0, .int .i64 f1] 100)
     have HG2 := Aside0.mk hg2
     clear hg2
     go_wp2_with fail
     refine (carets_low.calls f0 f1 lo _ HLO.out).mono ?_
     rintro e W3 ⟨rfl, hb3⟩
     have HB3 := Aside0.mk (below_step (below_alloc HB.out _) hb3)
     have HG3 := Aside0.mk (blk_below HG2.out hb3)
     have x0 := blk_cell HG3.out 0
     have x1 := blk_cell HG3.out 1
     clear hb3
     by_cases hh0 : (b.length : Int) < hi
     ·have d3 : decide ((b.length : Int) < hi) = true := decide_eq_true hh0
      have hbad : (if l.all (inB (b.length : Int)) = true then (0 : Int) else 2) = 2 := by
       rw [if_neg]
       intro hall
       have := List.all_eq_true.1 hall _ HM.out
       rw [HCC.out, HIN.out] at this
       simp at this
       omega
      have HE2 := Aside0.mk (HE.out.trans hbad)
      clear hbad
      go_wp2_with fail
      refine (carets_high.calls f0 f1 hi _ HHI.out).mono ?_
      rintro e W4 ⟨rfl, hb4⟩
      have HB4 := Aside0.mk (below_step HB3.out hb4)
      clear hb4 x0 x1
      go_wp2
      refine bodyPost_ret (results_list (rs := [.tmp 4, .tmp 5]) rfl (by simp) (.tmp (.tmp .nil))) rfl ?_
      rw [HE2.out]
      exact ⟨HB4.out, .inr ⟨by decide, rfl⟩⟩
     ·have d3 : decide ((b.length : Int) < hi) = false := decide_eq_false hh0
      have hin : inB (b.length : Int) ⟨f0, f1⟩ = true := by
       rw [HIN.out]
       simp
       omega
      have HIN2 := Aside0.mk hin
      clear hin
      go_wp2_with fail
      refine (carets_high.calls f0 f1 hi _ HHI.out).mono ?_
      rintro e W4 ⟨rfl, hb4⟩
      have HB4 := Aside0.mk (below_step HB3.out hb4)
      clear hb4 x0 x1
      go_wp2
      go_roundg kk
      case measure => omega
      case rel => exact ⟨i + 1, by first | rfl | (simp [hw1]; done), ⟨by clear hw1; simp at i0; omega, by clear hw1; omega, by clear hw1; omega⟩, ⟨by rw [HTN.out, HT.out, List.all_append, HA.out, HCC.out]; simp [HIN2.out]⟩, ⟨HB4.out⟩⟩
   ·have d1 : decide (i < (l.length : Int)) = false := decide_eq_false hlt
    have hall : l.all (inB (b.length : Int)) = true := by
     have := HA.out
     rwa [List.take_of_length_le (by omega)] at this
    have HE2 := Aside0.mk (HE.out.trans (if_pos hall))
    have HSE := Aside0.mk (HS.out HE2.out)
    have hcv := Kd.C_string (P := Tryd.prog) (A := A0) (c := c0) Tryd.underlying29 Tryd.underlying5 Tryd.underlying9 (Kd.C_below HR0.out HB.out)
    clear hall
    go_wp2_with fail
    refine (carets_settled.calls k (strOfNums b) A1 c1 l (strOfNums b) r _ (Kd.C_below HR1.out HB.out) HC1.out (laid_below HLB.out HB.out) (by rw [strOfNums_size]; omega) HSE.out).mono ?_
    rintro e W3 ⟨g, rfl, hset, hg, hb3⟩
    have HST := Aside0.mk hset
    have HG := Aside0.mk (Nat.le_trans HB.out.size hg)
    have HB3 := Aside0.mk (below_step HB.out hb3)
    clear hset hg hb3
    go_wp2
    refine bodyPost_ret (results_list (rs := [.tmp 4, .tmp 5]) rfl (by simp) (.tmp (.tmp .nil))) rfl ?_
    exact ⟨HB3.out, .inl ⟨HE2.out, g, rfl, HST.out, HG.out⟩⟩

end Go.Proofs.YtijbkiajhicooaaDoor.PW

namespace Go.Proofs.YtijbkiajhicooaaDoor.PW
open Go.RowKit Go.Proofs.YtijbkiajhicooaaDoorW.PrintWords Go.Proofs.YtijbkiajhicooaaDoorW.PrintLast Go.Proofs.YtijbkiajhicooaaDoorW.PrintMore
attribute [local go_sem] max2_int min2_int max_two min_two max_three min_three max_four min_four   -- for this text's walks alone
set_option linter.unusedVariables false
set_option linter.unusedSimpArgs false

theorem eqA100 (d : Nat) (w : World) (x0 y0 : Int) (x1 y1 : Int) :
  (Op.equalIn (d + 2) 100 (.agg #[.int .i64 x0, .int .i64 x1]) (.agg #[.int .i64 y0, .int .i64 y1])).run Tryd.prog w = .ok (x0 == y0 && (x1 == y1)) w := by
 refine eqA_of Tryd.underlying100 (by kernel_rfl) ?_
 refine eqf_cons (by rfl) (by go_simp; rfl) (by go_simp; rfl) (by go_simp) ?_
 exact eqf_last (by rfl) (by go_simp; rfl) (by go_simp; rfl) (by go_simp)
end Go.Proofs.YtijbkiajhicooaaDoor.PW

namespace Go.Proofs.YtijbkiajhicooaaDoor.PW
open Go.RowKit Go.Proofs.YtijbkiajhicooaaDoorW.PrintWords Go.Proofs.YtijbkiajhicooaaDoorW.PrintLast Go.Proofs.YtijbkiajhicooaaDoorW.PrintMore
attribute [local go_sem] max2_int min2_int max_two min_two max_three min_three max_four min_four   -- for this text's walks alone
set_option linter.unusedVariables false
set_option linter.unusedSimpArgs false

attribute [local go_sem high] eqA100
def galleyref33_Same.l0 : Nat → List (S100) → List (S100) → Int → Option (Bool)
 | 0, _, _, _ => none
 | k + 1, x0, x1, x5 => if x5 < (x0.length : Int) then (if 0 ≤ x5 then (if x5 < (x1.length : Int) then (if (!(((rd_T100 x0 x5).f0) == ((rd_T100 x1 x5).f0)) || (!(((rd_T100 x0 x5).f1) == ((rd_T100 x1 x5).f1)))) = true then (some false) else (galleyref33_Same.l0 k x0 x1 (wrap64 (x5 + 1)))) else (none)) else (none)) else (some true)
def galleyref33_Same.f (k : Nat) (l0 : List (S100)) (l1 : List (S100)) : Option (Bool) := if (l0.length : Int) = (l1.length : Int) then (galleyref33_Same.l0 k l0 l1 0) else (some false)
set_option maxHeartbeats 8000000 in
set_option maxRecDepth 100000 in
theorem galleyref33_Same.calls (k : Nat) (A0 : Option Addr) (c0 : Nat) (l0 : List (S100)) (A1 : Option Addr) (c1 : Nat) (l1 : List (S100)) (r : Bool) (w : World) (hr0 : Kd.C k100 w A0 l0.length l0) (hc0 : l0.length ≤ c0) (hr1 : Kd.C k100 w A1 l1.length l1) (hc1 : l1.length ≤ c1) (h : galleyref33_Same.f k l0 l1 = some r) :
  Calls Tryd.prog 51 #[.slice A0 l0.length c0, .slice A1 l1.length c1] w fun e w' => e = .returned (.bool r) ∧ Drawn0 w w' := by
 have hu100 := Tryd.underlying100
 have HR0 := Aside0.mk hr0
 have HC0 := Aside0.mk hc0
 clear hr0 hc0
 have HR1 := Aside0.mk hr1
 have HC1 := Aside0.mk hc1
 clear hr1 hc1
 have H : (if (l0.length : Int) = (l1.length : Int) then (galleyref33_Same.l0 k l0 l1 0) else (some false)) = some r := h
 clear h
 by_cases c3 : (l0.length : Int) = (l1.length : Int)
 ·rw [if_pos c3] at H
  have c3b0 : ((l0.length : Int) == (l1.length : Int)) = true := beq_iff_eq.mpr c3
  have c3b1 : ((l0.length : Int) != (l1.length : Int)) = false := bne_eq_false_iff_eq.mpr c3
  have c3b2 : (l0.length == l1.length) = true := by first | simpa using c3 | (simp at c3 ⊢; omega)
  clear c3
  have H' := Aside0.mk H
  clear H
  go_enter Tryd.func51, Tryd.ntmps51
  go_wp2
  repeat (go_quiet (fail); try go_wp2)
  go_loopg [5] k (fun kq v5 w' => ∃ (x5_1 : Int), v5 = .int .i64 x5_1 ∧ Aside0 (galleyref33_Same.l0 kq l0 l1 x5_1 = some r) ∧ Aside0 (kq ≤ k) ∧ Drawn0 w w')
  case atStart => exact ⟨(0), (by first | rfl | (simp; done) | (simp [*]; done)), H', ⟨Nat.le_refl _⟩, by repeat (first | exact Drawn0.refl _ | apply Drawn0.step)⟩
  case round =>
   clear H'
   try clear c1
   try clear p2
   try clear c3
   try clear c3b0
   try clear c3b1
   try clear c3b2
   obtain ⟨x5_1, rfl, HA, HK1, ⟨m1, rfl⟩⟩ := hrel
   cases gk with
   | zero => exact absurd HA.out (by simp [galleyref33_Same.l0])
   | succ k1 =>
    have H := HA.out
    clear HA
    simp only [galleyref33_Same.l0] at H
    by_cases c4 : x5_1 < (l0.length : Int)
    ·rw [if_pos c4] at H
     have c4b0 : decide (x5_1 < (l0.length : Int)) = true := decide_eq_true c4
     clear c4
     by_cases c5 : 0 ≤ x5_1
     ·rw [if_pos c5] at H
      have c5b0 : decide (0 ≤ x5_1) = true := decide_eq_true c5
      clear c5
      by_cases c6 : x5_1 < (l1.length : Int)
      ·rw [if_pos c6] at H
       have c6b0 : decide (x5_1 < (l1.length : Int)) = true := decide_eq_true c6
       clear c6
       by_cases c7 : (!(((rd_T100 l0 x5_1).f0) == ((rd_T100 l1 x5_1).f0)) || (!(((rd_T100 l0 x5_1).f1) == ((rd_T100 l1 x5_1).f1)))) = true
       ·rw [if_pos c7] at H
        have c7b0 : (!(((rd_T100 l0 x5_1).f0) == ((rd_T100 l1 x5_1).f0)) || (!(((rd_T100 l0 x5_1).f1) == ((rd_T100 l1 x5_1).f1)))) = true := c7
        clear c7
        obtain rfl := Option.some.inj H
        have p199 : 0 ≤ (x5_1 : Int) := of_decide_eq_true (by first | (with_reducible assumption) | assumption)
        have q199 : x5_1 < (l0.length : Int) := of_decide_eq_true (by first | (with_reducible assumption) | assumption)
        obtain ⟨ad199, e199, hx199_0, hx199_1⟩ := at_T100 HR0.out x5_1 p199 q199
        cases e199
        replace p199 := eq_true p199
        replace q199 := eq_true q199
        have p200 : 0 ≤ (x5_1 : Int) := of_decide_eq_true (by first | (with_reducible assumption) | assumption)
        have q200 : x5_1 < (l1.length : Int) := of_decide_eq_true (by first | (with_reducible assumption) | assumption)
        obtain ⟨ad200, e200, hx200_0, hx200_1⟩ := at_T100 HR1.out x5_1 p200 q200
        cases e200
        replace p200 := eq_true p200
        replace q200 := eq_true q200
        go_wp2
        repeat (go_quiet (fail); try go_wp2)
        go_ret
        exact ⟨by first | rfl | (simp; done) | (simp [*]; done), by repeat (first | exact Drawn0.refl _ | apply Drawn0.step)⟩
       ·rw [if_neg c7] at H
        have c7b0 : (!(((rd_T100 l0 x5_1).f0) == ((rd_T100 l1 x5_1).f0)) || (!(((rd_T100 l0 x5_1).f1) == ((rd_T100 l1 x5_1).f1)))) = false := by simpa using c7
        clear c7
        have H' := Aside0.mk H
        clear H
        have p199 : 0 ≤ (x5_1 : Int) := of_decide_eq_true (by first | (with_reducible assumption) | assumption)
        have q199 : x5_1 < (l0.length : Int) := of_decide_eq_true (by first | (with_reducible assumption) | assumption)
        obtain ⟨ad199, e199, hx199_0, hx199_1⟩ := at_T100 HR0.out x5_1 p199 q199
        cases e199
        replace p199 := eq_true p199
        replace q199 := eq_true q199
        have p200 : 0 ≤ (x5_1 : Int) := of_decide_eq_true (by first | (with_reducible assumption) | assumption)
        have q200 : x5_1 < (l1.length : Int) := of_decide_eq_true (by first | (with_reducible assumption) | assumption)
        obtain ⟨ad200, e200, hx200_0, hx200_1⟩ := at_T100 HR1.out x5_1 p200 q200
        cases e200
        replace p200 := eq_true p200
        replace q200 := eq_true q200
        go_wp2
        repeat (go_quiet (fail); try go_wp2)
        go_roundg k1
        case measure => have := HK1.out; omega
        case rel => exact ⟨(wrap64 (x5_1 + 1)), (by first | rfl | (simp; done) | (simp [*]; done)), H', ⟨by have := HK1.out; omega⟩, by repeat (first | exact Drawn0.refl _ | apply Drawn0.step)⟩
      ·rw [if_neg c6] at H
       exact absurd H (by simp)
     ·rw [if_neg c5] at H
      exact absurd H (by simp)
    ·rw [if_neg c4] at H
     have c4b0 : decide (x5_1 < (l0.length : Int)) = false := decide_eq_false c4
     clear c4
     obtain rfl := Option.some.inj H
     go_wp2
     repeat (go_quiet (fail); try go_wp2)
     go_ret
     exact ⟨by first | rfl | (simp; done) | (simp [*]; done), by repeat (first | exact Drawn0.refl _ | apply Drawn0.step)⟩
 ·rw [if_neg c3] at H
  have c3b0 : ((l0.length : Int) == (l1.length : Int)) = false := beq_eq_false_iff_ne.mpr c3
  have c3b1 : ((l0.length : Int) != (l1.length : Int)) = true := bne_iff_ne.mpr c3
  have c3b2 : (l0.length == l1.length) = false := by first | simpa using c3 | (simp at c3 ⊢; omega)
  obtain rfl := Option.some.inj H
  go_enter Tryd.func51, Tryd.ntmps51
  go_wp2
  repeat (go_quiet (fail); try go_wp2)
  go_ret
  exact ⟨by first | rfl | (simp; done) | (simp [*]; done), by repeat (first | exact Drawn0.refl _ | apply Drawn0.step)⟩

end Go.Proofs.YtijbkiajhicooaaDoor.PW

namespace Go.Proofs.YtijbkiajhicooaaDoor.PW
open Go.RowKit Go.Proofs.YtijbkiajhicooaaDoorW.PrintWords Go.Proofs.YtijbkiajhicooaaDoorW.PrintLast Go.Proofs.YtijbkiajhicooaaDoorW.PrintMore
attribute [local go_sem] max2_int min2_int max_two min_two max_three min_three max_four min_four   -- for this text's walks alone
set_option linter.unusedVariables false
set_option linter.unusedSimpArgs false

/-- The document's example. -/
def exB : List Int := [97, 98, 10, 240, 159, 152, 128, 99, 10, 120]
def exL : List S100 := [⟨5, 5⟩, ⟨1, 0⟩, ⟨0, 2⟩]
theorem ex_new : carets_settled.f 64 (strOfNums exB) exL = some (strOfNums exB, [⟨0, 2⟩, ⟨3, 3⟩]) := by kernel_rfl
theorem ex_err : newErr exB.length exL = 0 := by kernel_rfl
theorem ex_move1 : movedL (moveK 64 (bytesOf (strOfNums exB)) 1) false [⟨0, 2⟩, ⟨3, 3⟩] = some [⟨3, 3⟩, ⟨7, 7⟩] := by kernel_rfl
theorem ex_set1 : carets_settled.f 64 (strOfNums exB) [⟨3, 3⟩, ⟨7, 7⟩] = some (strOfNums exB, [⟨3, 3⟩, ⟨7, 7⟩]) := by kernel_rfl
theorem ex_move2 : movedL (moveK 64 (bytesOf (strOfNums exB)) 1) true [⟨0, 2⟩, ⟨3, 3⟩] = some [⟨0, 3⟩, ⟨3, 7⟩] := by kernel_rfl
theorem ex_set2 : carets_settled.f 64 (strOfNums exB) [⟨0, 3⟩, ⟨3, 7⟩] = some (strOfNums exB, [⟨0, 7⟩]) := by kernel_rfl
theorem ex_same0 : galleyref33_Same.f 64 [⟨0, 2⟩, ⟨3, 3⟩] [⟨0, 2⟩, ⟨3, 3⟩] = some true := by kernel_rfl
theorem ex_same1 : galleyref33_Same.f 64 [⟨3, 3⟩, ⟨7, 7⟩] [⟨3, 3⟩, ⟨7, 7⟩] = some true := by kernel_rfl
theorem ex_same2 : galleyref33_Same.f 64 [⟨0, 7⟩] [⟨0, 7⟩] = some true := by kernel_rfl
/-- A row that was laid just now, read. -/
theorem C_lit {α : Type} (d : Kd α) (e : Nat) (W : World) (xs : List α) (inner : List Value) (hrep : Reps (d.M W W.heap.size (fun _ => False)) d.sz xs inner) (hm : xs.length ≤ 9223372036854775807) :
  d.C (W.alloc (.cells inner.toArray e)) (some ⟨W.heap.size, 0, none⟩) xs.length xs := by
 have h2 := World.ownsRow_lit (base := W.heap.size) (e := e) (size := d.sz) W inner.toArray xs.length (Nat.le_refl _) (by simpa [maxLen] using hm) (by simpa using hrep.1)
 have h3 : d.R e (W.alloc (.cells inner.toArray e)) W.heap.size (fun _ => True) (.slice (some ⟨W.heap.size, 0, none⟩) xs.length xs.length) xs :=
  ⟨fun _ _ => trivial, inner, by simpa using h2, hrep.imp_ (fun p c hp => d.M_mono (fun k hk => hk.elim) (Kd.M_below hp (below_alloc (Below.refl _ _) _)))⟩
 exact (Kd.R_reads' h3).2.2
set_option maxRecDepth 100000 in
set_option maxHeartbeats 4000000 in
theorem fixed_calls (w : World) (hL : LaidBad w) : Calls Tryd.prog 28 #[] w fun e w' => e = .returned (.bool true) ∧ Below w.heap.size w w' := by
 have hcid := fun (W : World) (C : Array Value) (n c : Nat) => Lib.run_convert_bytes_const (P := Tryd.prog) W 29 5 C n c Tryd.underlying29 Tryd.underlying5
 have hqn : ∀ (g : Nat) (W : World), (binOp .eql 52 (.pointer (some ⟨g, 0, none⟩)) (.pointer none)).run Tryd.prog W = .ok (.bool false) W := fun g W => by first | (simp [binOp, go_sem, run_underlying Tryd.underlying52]; done) | kernel_rfl
 have hqm : ∀ (g : Nat) (W : World), (binOp .neq 52 (.pointer (some ⟨g, 0, none⟩)) (.pointer none)).run Tryd.prog W = .ok (.bool true) W := fun g W => by first | (simp [binOp, go_sem, run_underlying Tryd.underlying52]; done) | kernel_rfl
 obtain ⟨W1, hW1⟩ : ∃ W1, w.alloc (.cells #[.int .u8 97, .int .u8 98, .int .u8 10, .int .u8 240, .int .u8 159, .int .u8 152, .int .u8 128, .int .u8 99, .int .u8 10, .int .u8 120] 5 (10, 11)) = W1 := ⟨_, rfl⟩
 have hb1 : Below w.heap.size w W1 := by rw [← hW1]; exact below_alloc (Below.refl _ _) _
 have hr1 : Kd.C (Kd.int .u8) W1 (some ⟨w.heap.size, 0, none⟩) exB.length exB := by
  rw [← hW1]
  refine Kd.C_of_reads (d := (0 : Int)) (enc := Value.int .u8) (h1 := fun _ => rfl) ⟨rfl, by decide, fun _ => ⟨_, rfl, fun j hj => ?_⟩⟩
  rw [add_plain, cell_of_row _ _ _ _ _ _ (blk_new w _)]
  exact match j, hj with
   | 0, _ => rfl
   | 1, _ => rfl
   | 2, _ => rfl
   | 3, _ => rfl
   | 4, _ => rfl
   | 5, _ => rfl
   | 6, _ => rfl
   | 7, _ => rfl
   | 8, _ => rfl
   | 9, _ => rfl
   | n + 10, h => absurd (show n + 10 < 10 from h) (by omega)
 have hr2 : Kd.C k100 (W1.alloc (.cells #[.int .i64 5, .int .i64 5, .int .i64 1, .int .i64 0, .int .i64 0, .int .i64 2] 100)) (some ⟨W1.heap.size, 0, none⟩) exL.length exL :=
  C_lit k100 100 W1 exL _ (Reps.snoc (ps := [⟨5, 5⟩, ⟨1, 0⟩]) (cs := [.int .i64 5, .int .i64 5, .int .i64 1, .int .i64 0]) (Reps.snoc (ps := [⟨5, 5⟩]) (cs := [.int .i64 5, .int .i64 5]) (Reps.snoc (ps := []) (cs := []) (Reps.none _ _) (k100_mkM _ _ _ (⟨5, 5⟩ : S100)) rfl) (k100_mkM _ _ _ (⟨1, 0⟩ : S100)) rfl) (k100_mkM _ _ _ (⟨0, 2⟩ : S100)) rfl) (by decide)
 obtain ⟨W2, hW2⟩ : ∃ W2, W1.alloc (.cells #[.int .i64 5, .int .i64 5, .int .i64 1, .int .i64 0, .int .i64 0, .int .i64 2] 100) = W2 := ⟨_, rfl⟩
 have hb2 : Below W1.heap.size W1 W2 := by rw [← hW2]; exact below_alloc (Below.refl _ _) _
 rw [hW2] at hr2
 have HR1 := Aside0.mk (Kd.C_below hr1 hb2)
 have HR2 := Aside0.mk hr2
 have HB2 := Aside0.mk (below_step hb1 hb2)
 have HLB := Aside0.mk (laid_below hL HB2.out)
 clear hr1 hr2 hb1 hb2 hL
 go_enter Tryd.func28, Tryd.ntmps28
 go_wp2_with fail
 refine (new_calls 64 (some ⟨w.heap.size, 0, none⟩) 10 exB (some ⟨W1.heap.size, 0, none⟩) 3 exL [⟨0, 2⟩, ⟨3, 3⟩] W2 HR1.out HR2.out (by decide) HLB.out (fun _ => ex_new)).mono ?_
 rintro e W3 ⟨hb, ⟨h0, g, rfl, hset, hg⟩ | ⟨h0, rfl⟩⟩
 case inr => exact absurd ex_err h0
 have HB3 := Aside0.mk (below_step HB2.out hb)
 have HL3 := Aside0.mk (laid_below HLB.out hb)
 have HS3 := Aside0.mk hset
 clear hb h0 hset hg
 go_wp2_with fail
 refine (list_calls g (strOfNums exB) [⟨0, 2⟩, ⟨3, 3⟩] W3 HS3.out (by decide)).mono ?_
 rintro e W3a ⟨vx, rfl, hv, hb⟩
 obtain ⟨Ax, cx, rfl, hcx, hrx⟩ := Kd.R_reads hv
 obtain ⟨W3b, hWW3b⟩ : ∃ W', W3a.alloc (.cells #[.int .i64 0, .int .i64 2, .int .i64 3, .int .i64 3] 100) = W' := ⟨_, rfl⟩
 have hbx : Below W3a.heap.size W3a W3b := by rw [← hWW3b]; exact below_alloc (Below.refl _ _) _
 have hlx : Kd.C k100 W3b (some ⟨W3a.heap.size, 0, none⟩) ([⟨0, 2⟩, ⟨3, 3⟩] : List S100).length [⟨0, 2⟩, ⟨3, 3⟩] := by
  rw [← hWW3b]
  exact C_lit k100 100 W3a [⟨0, 2⟩, ⟨3, 3⟩] _ (Reps.snoc (ps := [⟨0, 2⟩]) (cs := [.int .i64 0, .int .i64 2]) (Reps.snoc (ps := []) (cs := []) (Reps.none _ _) (k100_mkM _ _ _ (⟨0, 2⟩ : S100)) rfl) (k100_mkM _ _ _ (⟨3, 3⟩ : S100)) rfl) (by decide)
 have HLCx := Aside0.mk hlx
 have HLDx := Aside0.mk (Kd.C_below hrx hbx)
 have HCCx := Aside0.mk hcx
 have HBBx := Aside0.mk (below_step hb hbx)
 clear hv hb hbx hlx hrx hcx
 go_wp2_with fail
 refine (galleyref33_Same.calls 64 Ax cx [⟨0, 2⟩, ⟨3, 3⟩] (some ⟨W3a.heap.size, 0, none⟩) 2 [⟨0, 2⟩, ⟨3, 3⟩] true W3b HLDx.out HCCx.out HLCx.out (by decide) ex_same0).mono ?_
 rintro e W4 ⟨rfl, hd⟩
 have HBNx := Aside0.mk (below_step HBBx.out hd.below)
 clear hd
 have HB4 := Aside0.mk (below_step HB3.out HBNx.out)
 have HL4 := Aside0.mk (laid_below HL3.out HBNx.out)
 have HS4 := Aside0.mk (HS3.out.below HBNx.out)
 go_wp2_with fail
 refine (move_calls 64 false 1 g (strOfNums exB) [⟨0, 2⟩, ⟨3, 3⟩] [⟨3, 3⟩, ⟨7, 7⟩] [⟨3, 3⟩, ⟨7, 7⟩] W4 HS4.out HL4.out (by decide) (by decide) (by decide) (by decide) ex_move1 ex_set1).mono ?_
 rintro e W5 ⟨gm, rfl, hset, hg, hb⟩
 have HB5 := Aside0.mk (below_step HB4.out hb)
 have HL5 := Aside0.mk (laid_below HL4.out hb)
 have HS5 := Aside0.mk (HS4.out.below hb)
 have HM5 := Aside0.mk hset
 clear hset hg hb
 go_wp2_with fail
 refine (move_calls 64 true 1 g (strOfNums exB) [⟨0, 2⟩, ⟨3, 3⟩] [⟨0, 3⟩, ⟨3, 7⟩] [⟨0, 7⟩] W5 HS5.out HL5.out (by decide) (by decide) (by decide) (by decide) ex_move2 ex_set2).mono ?_
 rintro e W6 ⟨gx, rfl, hset, hg, hb⟩
 have HB6 := Aside0.mk (below_step HB5.out hb)
 have HM6 := Aside0.mk (HM5.out.below hb)
 have HX6 := Aside0.mk hset
 clear hset hg hb
 go_wp2_with fail
 refine (list_calls gm (strOfNums exB) [⟨3, 3⟩, ⟨7, 7⟩] W6 HM6.out (by decide)).mono ?_
 rintro e W6a ⟨vy, rfl, hv, hb⟩
 obtain ⟨Ay, cy, rfl, hcy, hry⟩ := Kd.R_reads hv
 obtain ⟨W6b, hWW6b⟩ : ∃ W', W6a.alloc (.cells #[.int .i64 3, .int .i64 3, .int .i64 7, .int .i64 7] 100) = W' := ⟨_, rfl⟩
 have hby : Below W6a.heap.size W6a W6b := by rw [← hWW6b]; exact below_alloc (Below.refl _ _) _
 have hly : Kd.C k100 W6b (some ⟨W6a.heap.size, 0, none⟩) ([⟨3, 3⟩, ⟨7, 7⟩] : List S100).length [⟨3, 3⟩, ⟨7, 7⟩] := by
  rw [← hWW6b]
  exact C_lit k100 100 W6a [⟨3, 3⟩, ⟨7, 7⟩] _ (Reps.snoc (ps := [⟨3, 3⟩]) (cs := [.int .i64 3, .int .i64 3]) (Reps.snoc (ps := []) (cs := []) (Reps.none _ _) (k100_mkM _ _ _ (⟨3, 3⟩ : S100)) rfl) (k100_mkM _ _ _ (⟨7, 7⟩ : S100)) rfl) (by decide)
 have HLCy := Aside0.mk hly
 have HLDy := Aside0.mk (Kd.C_below hry hby)
 have HCCy := Aside0.mk hcy
 have HBBy := Aside0.mk (below_step hb hby)
 clear hv hb hby hly hry hcy
 go_wp2_with fail
 refine (galleyref33_Same.calls 64 Ay cy [⟨3, 3⟩, ⟨7, 7⟩] (some ⟨W6a.heap.size, 0, none⟩) 2 [⟨3, 3⟩, ⟨7, 7⟩] true W6b HLDy.out HCCy.out HLCy.out (by decide) ex_same1).mono ?_
 rintro e W7 ⟨rfl, hd⟩
 have HBNy := Aside0.mk (below_step HBBy.out hd.below)
 clear hd
 have HB7 := Aside0.mk (below_step HB6.out HBNy.out)
 have HX7 := Aside0.mk (HX6.out.below HBNy.out)
 go_wp2_with fail
 refine (list_calls gx (strOfNums exB) [⟨0, 7⟩] W7 HX7.out (by decide)).mono ?_
 rintro e W7a ⟨vz, rfl, hv, hb⟩
 obtain ⟨Az, cz, rfl, hcz, hrz⟩ := Kd.R_reads hv
 obtain ⟨W7b, hWW7b⟩ : ∃ W', W7a.alloc (.cells #[.int .i64 0, .int .i64 7] 100) = W' := ⟨_, rfl⟩
 have hbz : Below W7a.heap.size W7a W7b := by rw [← hWW7b]; exact below_alloc (Below.refl _ _) _
 have hlz : Kd.C k100 W7b (some ⟨W7a.heap.size, 0, none⟩) ([⟨0, 7⟩] : List S100).length [⟨0, 7⟩] := by
  rw [← hWW7b]
  exact C_lit k100 100 W7a [⟨0, 7⟩] _ (Reps.snoc (ps := []) (cs := []) (Reps.none _ _) (k100_mkM _ _ _ (⟨0, 7⟩ : S100)) rfl) (by decide)
 have HLCz := Aside0.mk hlz
 have HLDz := Aside0.mk (Kd.C_below hrz hbz)
 have HCCz := Aside0.mk hcz
 have HBBz := Aside0.mk (below_step hb hbz)
 clear hv hb hbz hlz hrz hcz
 go_wp2_with fail
 refine (galleyref33_Same.calls 64 Az cz [⟨0, 7⟩] (some ⟨W7a.heap.size, 0, none⟩) 1 [⟨0, 7⟩] true W7b HLDz.out HCCz.out HLCz.out (by decide) ex_same2).mono ?_
 rintro e W8 ⟨rfl, hd⟩
 have HBNz := Aside0.mk (below_step HBBz.out hd.below)
 clear hd
 go_wp2_with fail
 go_ret
 exact ⟨rfl, below_step HB7.out HBNz.out⟩

end Go.Proofs.YtijbkiajhicooaaDoor.PW

namespace Go.Proofs.YtijbkiajhicooaaDoor.PW
open Go.RowKit Go.Proofs.YtijbkiajhicooaaDoorW.PrintWords Go.Proofs.YtijbkiajhicooaaDoorW.PrintLast Go.Proofs.YtijbkiajhicooaaDoorW.PrintMore
attribute [local go_sem] max2_int min2_int max_two min_two max_three min_three max_four min_four   -- for this text's walks alone
set_option linter.unusedVariables false
set_option linter.unusedSimpArgs false

set_option maxRecDepth 100000 in
theorem lines_nil (n r : Int) (f : Bool) (w : World) : Calls Tryd.prog 29 #[.pointer none, .int .i64 n, .int .i64 r, .bool f] w fun e w' => e = .returned (.tuple #[.pointer none, .int .i64 1]) ∧ Below w.heap.size w w' := by
 have hq : ∀ W : World, (binOp .eql 52 (.pointer none) (.pointer none)).run Tryd.prog W = .ok (.bool true) W := fun W => by first | (simp [binOp, go_sem, run_underlying Tryd.underlying52]; done) | kernel_rfl
 go_enter Tryd.func29, Tryd.ntmps29
 go_wp2
 go_ret2
 exact ⟨rfl, below_alloc (below_alloc (Below.refl _ _) _) _⟩
set_option maxRecDepth 100000 in
theorem type_nil (v : Value) (w : World) : Calls Tryd.prog 30 #[.pointer none, v] w fun e w' => e = .returned (.tuple #[.slice none 0 0, .pointer none, .int .i64 1]) ∧ Below w.heap.size w w' := by
 have hq : ∀ W : World, (binOp .eql 52 (.pointer none) (.pointer none)).run Tryd.prog W = .ok (.bool true) W := fun W => by first | (simp [binOp, go_sem, run_underlying Tryd.underlying52]; done) | kernel_rfl
 go_enter Tryd.func30, Tryd.ntmps30
 go_wp2
 (try simp only [Exit.inBlock, Exit.then])
 refine bodyPost_ret (results_list (rs := [.tmp 4, .tmp 5, .tmp 6]) rfl (by simp) (.tmp (.tmp (.tmp .nil)))) rfl ?_
 exact ⟨rfl, Below.refl _ _⟩
set_option maxRecDepth 100000 in
theorem rub_nil (f : Bool) (w : World) : Calls Tryd.prog 31 #[.pointer none, .bool f] w fun e w' => e = .returned (.tuple #[.slice none 0 0, .pointer none]) ∧ Below w.heap.size w w' := by
 have hq : ∀ W : World, (binOp .eql 52 (.pointer none) (.pointer none)).run Tryd.prog W = .ok (.bool true) W := fun W => by first | (simp [binOp, go_sem, run_underlying Tryd.underlying52]; done) | kernel_rfl
 go_enter Tryd.func31, Tryd.ntmps31
 go_wp2
 go_ret2
 exact ⟨rfl, below_alloc (Below.refl _ _) _⟩
set_option maxRecDepth 100000 in
theorem words_nil (b f : Bool) (w : World) : Calls Tryd.prog 34 #[.pointer none, .bool b, .bool f] w fun e w' => e = .returned (.pointer none) ∧ Below w.heap.size w w' := by
 have hq : ∀ W : World, (binOp .eql 52 (.pointer none) (.pointer none)).run Tryd.prog W = .ok (.bool true) W := fun W => by first | (simp [binOp, go_sem, run_underlying Tryd.underlying52]; done) | kernel_rfl
 go_enter Tryd.func34, Tryd.ntmps34
 go_wp2
 go_ret
 exact ⟨rfl, below_alloc (Below.refl _ _) _⟩
set_option maxRecDepth 100000 in
theorem cut_nil (w : World) : Calls Tryd.prog 35 #[.pointer none] w fun e w' => e = .returned (.slice none 0 0) ∧ Below w.heap.size w w' := by
 have hq : ∀ W : World, (binOp .eql 52 (.pointer none) (.pointer none)).run Tryd.prog W = .ok (.bool true) W := fun W => by first | (simp [binOp, go_sem, run_underlying Tryd.underlying52]; done) | kernel_rfl
 go_enter Tryd.func35, Tryd.ntmps35
 go_wp2
 go_ret
 exact ⟨rfl, below_alloc (Below.refl _ _) _⟩
/-- The law's value: it asks nothing of its input. -/
def galleylaw33_CaretsNil.f (_a0_0 : Int) (_a0_1 : Int) (_a0_2 : ByteArray) (_a0_3 : Bool) (_a0_4 : Bool) : Option Bool := some true
set_option maxRecDepth 100000 in
set_option maxHeartbeats 4000000 in
theorem galleylaw33_CaretsNil.calls (a0_0 : Int) (a0_1 : Int) (a0_2 : ByteArray) (a0_3 : Bool) (a0_4 : Bool) (r : Bool) (w : World) (hL : LaidBad w) (h : galleylaw33_CaretsNil.f a0_0 a0_1 a0_2 a0_3 a0_4 = some r) :
  Calls Tryd.prog 8 #[.agg #[.int .i64 a0_0, .int .i64 a0_1, .string a0_2, .bool a0_3, .bool a0_4]] w fun e w' => e = .returned (.bool r) ∧ Below w.heap.size w w' := by
 obtain rfl : true = r := Option.some.inj h
 clear h
 have hq : ∀ W : World, (binOp .eql 52 (.pointer none) (.pointer none)).run Tryd.prog W = .ok (.bool true) W := fun W => by first | (simp [binOp, go_sem, run_underlying Tryd.underlying52]; done) | kernel_rfl
 have hu := Tryd.underlying51
 have he1 : ∀ W : World, (binOp .eql 37 (.int .i64 1) (.int .i64 1)).run Tryd.prog W = .ok (.bool true) W := fun W => by first | (simp [binOp, go_sem, run_underlying Tryd.underlying37]; done) | kernel_rfl
 obtain ⟨W1, hW1⟩ : ∃ W1, w.alloc (.cells #[.int .i64 a0_0, .int .i64 a0_1, .string a0_2, .bool a0_3, .bool a0_4] 51) = W1 := ⟨_, rfl⟩
 have hb1 : Below w.heap.size w W1 := by rw [← hW1]; exact below_alloc (Below.refl _ _) _
 have hg1 : W1.heap[w.heap.size]? = some (.cells #[.int .i64 a0_0, .int .i64 a0_1, .string a0_2, .bool a0_3, .bool a0_4] 51 (0, 0)) := by rw [← hW1]; exact blk_new w _
 have HB1 := Aside0.mk hb1
 have HG1 := Aside0.mk hg1
 have HL1 := Aside0.mk (laid_below hL hb1)
 clear hb1 hg1 hL
 go_enter Tryd.func8, Tryd.ntmps8
 go_wp2_with fail
 refine (fixed_calls W1 HL1.out).mono ?_
 rintro e W2 ⟨rfl, hb⟩
 have HB2 := Aside0.mk (below_step HB1.out hb)
 have HG2 := Aside0.mk (blk_below HG1.out hb)
 have p1 := blk_cell HG2.out 1
 have p3 := blk_cell HG2.out 3
 clear hb
 go_wp2_with fail
 refine (lines_nil a0_1 0 a0_3 W2).mono ?_
 rintro e W3 ⟨rfl, hb⟩
 have HB3 := Aside0.mk (below_step HB2.out hb)
 have HG3 := Aside0.mk (blk_below HG2.out hb)
 clear hb p1 p3
 have p2 := blk_cell HG3.out 2
 have hcv := print_bytes (P := Tryd.prog) 9 29 5 Tryd.underlying9 Tryd.underlying29 Tryd.underlying5 a0_2 W3
 have hb4 := bytes_below (Below.refl W3.heap.size W3) (Nat.le_refl _) 5 a0_2
 obtain ⟨W4, hW4⟩ : ∃ W4, Lib.bytesWorld W3 5 a0_2 = W4 := ⟨_, rfl⟩
 rw [hW4] at hcv hb4
 have HB4 := Aside0.mk (below_step HB3.out hb4)
 have HG4 := Aside0.mk (blk_below HG3.out hb4)
 clear hb4 hW4
 go_wp2_with fail
 refine (type_nil _ W4).mono ?_
 rintro e W5 ⟨rfl, hb⟩
 have HB5 := Aside0.mk (below_step HB4.out hb)
 have HG5 := Aside0.mk (blk_below HG4.out hb)
 clear hb p2 hcv
 have p3 := blk_cell HG5.out 3
 go_wp2_with fail
 refine (rub_nil a0_3 W5).mono ?_
 rintro e W6 ⟨rfl, hb⟩
 have HB6 := Aside0.mk (below_step HB5.out hb)
 have HG6 := Aside0.mk (blk_below HG5.out hb)
 clear hb p3
 go_wp2_with fail
 refine (list_nil W6).mono ?_
 rintro e W7 ⟨rfl, hb⟩
 have HB7 := Aside0.mk (below_step HB6.out hb)
 have HG7 := Aside0.mk (blk_below HG6.out hb)
 clear hb
 have p1 := blk_cell HG7.out 1
 have p3 := blk_cell HG7.out 3
 go_wp2_with fail
 refine (move_nil a0_1 a0_3 W7).mono ?_
 rintro e W8 ⟨rfl, hb⟩
 have HB8 := Aside0.mk (below_step HB7.out hb)
 have HG8 := Aside0.mk (blk_below HG7.out hb)
 clear hb p1 p3
 have p3 := blk_cell HG8.out 3
 have p4 := blk_cell HG8.out 4
 go_wp2_with fail
 refine (words_nil a0_4 a0_3 W8).mono ?_
 rintro e W9 ⟨rfl, hb⟩
 have HB9 := Aside0.mk (below_step HB8.out hb)
 have HG9 := Aside0.mk (blk_below HG8.out hb)
 clear hb p3 p4
 go_wp2_with fail
 refine (cut_nil W9).mono ?_
 rintro e W10 ⟨rfl, hb⟩
 have HB10 := Aside0.mk (below_step HB9.out hb)
 have HG10 := Aside0.mk (blk_below HG9.out hb)
 clear hb
 go_wp2_with fail
 go_ret
 exact ⟨rfl, HB10.out⟩

end Go.Proofs.YtijbkiajhicooaaDoor.PW

namespace Go.Proofs.YtijbkiajhicooaaDoor.PW
open Go.RowKit Go.Proofs.YtijbkiajhicooaaDoorW.PrintWords Go.Proofs.YtijbkiajhicooaaDoorW.PrintLast Go.Proofs.YtijbkiajhicooaaDoorW.PrintMore
attribute [local go_sem] max2_int min2_int max_two min_two max_three min_three max_four min_four   -- for this text's walks alone
set_option linter.unusedVariables false
set_option linter.unusedSimpArgs false

end Go.Proofs.YtijbkiajhicooaaDoor.PW
namespace Go.Proofs.YtijbkiajhicooaaDoor.Pure
open Go.Proofs.YtijbkiajhicooaaDoor.PW Go.RowKit
theorem CaretsNil (a b : Int) (s : ByteArray) (c d : Bool) {p q r : Prop} (_hp : p) (_hq : q) (_hr : r) : galleylaw33_CaretsNil.f a b s c d = some true := rfl
end Go.Proofs.YtijbkiajhicooaaDoor.Pure
namespace Go.Proofs.YtijbkiajhicooaaDoor.PW

end Go.Proofs.YtijbkiajhicooaaDoor.PW

