/- Within a line the columns that words.Column tells rise by one with each step, but for tabs, behind which they are the next number that w divides; a line begins with 0; inside a step, and between CR and LF, one stands where the edge ahead, or the content's end, is: WordsTabs returns true and leaves its arguments as they were. Condition: the arguments hold at most 1048576 values (uptoBulk); step.bad holds what the program's text lays there (the tie). -/
import Derived.Test.YtijbkiajhicooabDoorCards
import Derived.Test.YtijbkiajhicooabDoorTie
import Derived.Test.YtijbkiajhicooabDoorWordsTabsM1
import Derived.Test.YtijbkiajhicooabDoorWordsTabsM4
import Derived.Test.YtijbkiajhicooabDoorWordsTabsM5
import Derived.WalkKit
import Derived.ProofKit
import Derived.OpenShut
import Derived.ShutString
import Derived.ChangeOld
import Derived.Below
import Derived.SizedLaws
import Derived.Deep.DeepHandedRow
import Derived.Deep.Strs
import Derived.Lib.LaidTab
namespace Go.Proofs.YtijbkiajhicooabDoor.wordsTabs
open Go.ChangeShapes Go.WideShapes Go.ChangeAt Go.RowKit
set_option linter.unusedVariables false
theorem own : ownKnob Tryd.prog.godebug = none := by kernel_rfl
theorem laidOut : laidOutB Tryd.prog = true := by kernel_rfl
def IsRow (k : IntKind) (w : World) (a : Option Addr) (len cap : Nat) (zs : List Int) : Prop :=
  (a = none ∧ len = 0 ∧ cap = 0 ∧ zs = []) ∨
  ∃ x, a = some x ∧ len ≤ cap ∧ cap ≤ maxLen ∧ zs.length = cap ∧ (∀ i, i < zs.length → w.cell? (x.add i) = some (.int k (zs.getD i 0))) ∧ ∀ n ∈ zs, (Lit.int k n).wf = true
theorem gBad : Tryd.prog.globalNamed "galley/step.bad" = some 0 := by kernel_rfl
theorem gBadType : (Tryd.prog.globals[0]?).map (·.type) = some 50 := by kernel_rfl
set_option maxRecDepth 100000 in
theorem bad {W : World} (h : laidMetH Tryd.prog Rows.wordsTabsUptoRow.laid W) : Go.Proofs.YtijbkiajhicooabDoor.PW.LaidBad W := by
  have h' : laidMet Tryd.prog (("galley/step.bad", Rows.laid_galley_step_bad) :: []) W := h
  obtain ⟨ps, ⟨g', t', cs, fuel, p, q, hg', ht', hvar, hd, _, _⟩, _⟩ := h'
  obtain rfl := Option.some.inj (gBad.symm.trans hg')
  obtain rfl := Option.some.inj (gBadType.symm.trans ht')
  obtain ⟨y0, y1, y2, n, hx, hl, h0, h1, h2⟩ := Go.Deep.trod_struct3 Tryd.underlying50 hd
  obtain ⟨z0, e0, rfl, _⟩ := DataW.trod_int Tryd.underlying21 h0
  obtain ⟨z1, e1, rfl, _⟩ := DataW.trod_int Tryd.underlying3 h1
  obtain ⟨z2, e2, rfl⟩ := DataW.trod_bool Tryd.underlying4 h2
  rw [show Tryd.prog.cellsOf 50 = 3 by kernel_rfl] at hl
  rw [show Tryd.prog.cellsOf 21 = 1 by kernel_rfl] at e0
  rw [show Tryd.prog.cellsOf 3 = 1 by kernel_rfl] at e1
  rw [show Tryd.prog.cellsOf 4 = 1 by kernel_rfl] at e2
  obtain ⟨cs⟩ := cs
  match cs, hl with
  | [c0, c1, c2], _ =>
    simp at e0 e1 e2
    subst e0 e1 e2
    simp [Rows.laid_galley_step_bad] at hx
    obtain ⟨⟨rfl, rfl, rfl⟩, _⟩ := hx
    have k0 := World.var?_cell gBad hvar 0
    have k1 := World.var?_cell gBad hvar 1
    have k2 := World.var?_cell gBad hvar 2
    exact ⟨World.block_lt_of_cell? W ⟨0, 0, none⟩ (by simpa using k0), by simpa using k0, by simpa using k1, by simpa using k2⟩
set_option maxRecDepth 100000 in
theorem contract (H : Type) (enc : TypeId × Value → H) (W : World) (base : Nat) (args : Array Value) (ds gs : List (DataW H)) (before : List MemPlace)
    (hval : ∀ (j : Nat) t v, Tryd.f6.params[j]? = some t → args[j]? = some v → Value.okWide Tryd.prog W .any base t v)
    (hW : DataW.Whole enc Tryd.prog Tryd.f6.params.toList Rows.wordsTabsSpec.vars false W args.toList ds gs before) (hk : Rows.uptoSmall H (ds ++ gs) = true) (hL : laidMetH Tryd.prog Rows.wordsTabsUptoRow.laid W) :
    Calls Tryd.prog 6 args W fun e W' => ∃ v, e = .returned v ∧ Rows.wordsTabsSpec.post enc Tryd.prog Tryd.f6 false true false false W args v W' := by
  have hW' := hW
  obtain ⟨p, q, hA0, hV, rfl, hfz, hnd⟩ := hW
  have hA : DataW.TrodAll enc Tryd.prog W 0 (fun _ => true) true Tryd.f6.params.toList args.toList ds p := hA0
  rw [Tryd.params6] at hA hval
  obtain ⟨v0, vs0, d0, ds0, p0, q0, hargs, rfl, rfl, h0, r0⟩ := trodAll_cons hA
  obtain ⟨v1, vs1, d1, ds1, p1, q1, rfl, rfl, rfl, h1, r1⟩ := trodAll_cons r0
  obtain ⟨rfl, rfl, rfl⟩ := trodAll_nil r1
  obtain rfl : args = #[v0, v1] := by cases args; simp_all
  obtain ⟨rfl, rfl⟩ := trodVars_none hV
  have hk' := of_decide_eq_true hk
  simp only [List.append_nil, Rows.uptoBulkAll] at hk'
  obtain ⟨a0, len0, cap0, rfl⟩ := okWide_slice Tryd.underlying22 (hval 0 22 v0 rfl rfl)
  have k0 := h0
  have lt0 : ∀ x ∈ p0, x.block < W.heap.size := by obtain ⟨m, hm⟩ := k0; exact DataW.trod_lt m _ _ _ hm
  obtain ⟨z0, w0, y0⟩ : ∃ zs, IsRow .u8 W a0 len0 cap0 zs ∧ len0 ≤ Rows.uptoBulk d0 := by
    obtain ⟨fuel, hf⟩ := h0
    rcases open_ints Tryd.underlying22 Tryd.underlying5 (by kernel_rfl) hf with ⟨hcs, hd⟩ | ⟨x, l, c, zs, hcs, _, hl, hm, hz, hd, hcell, hwz⟩
    · simp [Value.cells] at hcs
      obtain ⟨rfl, rfl, rfl⟩ := hcs
      exact ⟨[], .inl ⟨rfl, rfl, rfl, rfl⟩, Nat.zero_le _⟩
    · have hz' : zs.length = c := by simpa using hz
      simp only [Prod.mk.injEq] at hd
      obtain ⟨rfl, _⟩ := hd
      have hb := Go.Proofs.YtijbkiajhicooabDoor.PW.bulk_slice_le (H := H) (lits .u8 (zs.take l)) (lits .u8 (zs.drop l))
      have hll : (lits (H := H) .u8 (zs.take l)).length = l := by simp [lits]; omega
      have hbb : l ≤ Rows.uptoBulk (DataW.slice (lits (H := H) .u8 (zs.take l)) (lits .u8 (zs.drop l))) := by omega
      simp [Value.cells] at hcs
      obtain ⟨rfl, rfl, rfl⟩ := hcs
      exact ⟨zs, .inr ⟨_, rfl, hl, hm, hz', hcell, hwz⟩, hbb⟩
  obtain ⟨a1, rfl, rfl, rfl, w1⟩ := open_int Tryd.underlying3 (hval 1 3 v1 rfl rfl) h1
  obtain ⟨l0, rfl, hr0, hm0, hw0, hc0⟩ := Go.Proofs.YtijbkiajhicooabDoorW.PrintWords.ReadsInt.ofRowC w0
  obtain ⟨k, hf⟩ := Pure.WordsTabs l0 a1 (by omega) hw0 w1
  clear hA0
  refine (Go.Proofs.YtijbkiajhicooabDoor.PW.galleylaw22_WordsTabs.calls k _ _ l0 a1 true W (Go.Proofs.YtijbkiajhicooabDoorW.PrintWords.Kd.C_of_reads (d := (0 : Int)) (h1 := fun _ => rfl) hr0) hc0 (bad hL) hf).mono fun e W' ⟨he, bel0⟩ => ?_
  subst he
  have bel : Below W.heap.size W W' := bel0
  exact ⟨_, rfl, _, _, _, [], _, [], hW', trodAll_mk1 (shut_bool Tryd.underlying4 _), (trodAll_cons_mk (Below.trod laidOut (by kernel_rfl) (of_decide_eq_true (by kernel_rfl)) k0 bel lt0) (trodAll_cons_mk (shut_int Tryd.underlying3 w1) trodAll_mk0)), rfl, bel.frame _, fun h => by cases h⟩
noncomputable def laidWorld (os : Os) : World :=
  { World.holding Tryd.prog os ⟨#[], #[], []⟩ with heap := (World.holding Tryd.prog os ⟨#[], #[], []⟩).heap.modify 0 fun
      | .cells _ t frozen => .cells #[.int .i32 65533, .int .i64 1, .bool false] t frozen
      | o => o }
set_option maxRecDepth 100000 in
theorem laid_met (os : Os) : laidMet Tryd.prog Rows.wordsTabsUptoRow.laid ((laidWorld os).forCall (fun _ _ => 0) ⟨#[], #[.slice none 0 0, .int .i64 0], []⟩).memory :=
  laidMet_of_run' 8 (by kernel_rfl) (by kernel_rfl)
set_option maxRecDepth 100000 in
theorem reads (os : Os) {H : Type} (enc : TypeId × Value → H) : ∃ places, DataW.whole enc Tryd.prog ((laidWorld os).forCall (fun _ _ => 0) ⟨#[], #[.slice none 0 0, .int .i64 0], []⟩).memory Tryd.f6.params.toList Rows.wordsTabsSpec.vars false (#[.slice none 0 0, .int .i64 0] : Array Value).toList 8 = some ([.nil, .lit (.int .i64 0)], [], places) :=
  ⟨[], by kernel_rfl⟩
set_option maxRecDepth 100000 in
theorem lifted (os : Os) (started : os.Started) (H : Type) (enc : TypeId × Value → H) (F : Stop.Interp) :
    ReturnsInHanded {} Tryd.checked os 6 .any ((Rows.OpenSpec.upto Rows.wordsTabsSpec).preRow enc Tryd.prog Tryd.f6 Rows.wordsTabsUptoRow.domain false Rows.wordsTabsUptoRow.laid) (((Rows.OpenSpec.upto Rows.wordsTabsSpec).at F).post enc Tryd.prog Tryd.f6 false true false false) := by
  obtain ⟨places, hx⟩ := reads os enc
  refine returnsInHanded_of_row (C := Tryd.checked) (s := Rows.OpenSpec.upto Rows.wordsTabsSpec) own started (by kernel_rfl) Tryd.func6
    (witness_row_at (enc := enc) (C := Tryd.checked) false (laidWorld os) #[.slice none 0 0, .int .i64 0] rfl (by kernel_rfl) (by kernel_rfl) (by kernel_rfl)
      (OpenSpec.preRow_of_cond 8 hx (by kernel_rfl) (fun k hk => by cases hk; kernel_rfl) (by kernel_rfl) (laid_met os))) ?_
  intro W base args ds gs before hval hW _ hcond _ hL _ _
  exact contract H enc W base args ds gs before hval hW (hcond _ rfl) hL
set_option maxRecDepth 100000 in
theorem said : Rows.WordsTabsUptoSaid :=
  OpenClaim.holds_of_cond 6 Tryd.f6 rfl rfl rfl rfl rfl rfl rfl ⟨rfl, rfl, rfl, rfl, rfl⟩ rfl rfl rfl rfl rfl (by kernel_rfl) Tryd.func6 (by kernel_rfl)
    (of_decide_eq_true (by kernel_rfl)) (by unfold Func.isWrapper; first | (rw [if_pos (by decide +kernel)]; kernel_rfl) | (rw [if_neg (by decide +kernel)]; exact ⟨rfl, rfl⟩))
    (fun os started H enc _ F => by rw [OpenClaim.pre_eq_preRow]; exact lifted os started H enc F)
set_option maxRecDepth 100000 in
theorem plain (f : FuncId) (fn : Func) (hf : Tryd.pinned.checked.prog.funcNamed "galley/galleylaw22.WordsTabs" = some f) (hfn : Tryd.pinned.checked.prog.funcs[f]? = some fn) :
    false = Tryd.pinned.checked.prog.looks [] ∧ ∀ (j : Nat) t, fn.params[j]? = some t → Tryd.pinned.checked.prog.wantsStandIn t = false := by
  obtain rfl : f = 6 := Option.some.inj ((show Tryd.prog.funcNamed "galley/galleylaw22.WordsTabs" = some 6 by kernel_rfl).symm.trans hf) |>.symm
  obtain rfl : fn = Tryd.f6 := (Option.some.inj (Tryd.func6.symm.trans hfn)).symm
  refine ⟨by kernel_rfl, fun j t ht => ?_⟩
  rw [Tryd.params6] at ht
  have hm := Array.mem_of_getElem? ht
  have hm' : t = 22 ∨ t = 3 := by simpa using hm
  have wn3 : Tryd.prog.wantsStandIn 3 = false := by kernel_rfl
  have wn22 : Tryd.prog.wantsStandIn 22 = false := by kernel_rfl
  rcases hm' with rfl | rfl
  all_goals first | exact wn3 | exact wn22
set_option maxRecDepth 100000 in
theorem card : Rows.WordsTabsUptoCardSaid :=
  Claim7.holds_tied_plain_at .later [] _ _ _ _ said (fun _ h => by cases h) (by kernel_rfl) (fun _ h => by cases h) wordsTabsUpto_row_tie rfl ⟨rfl, rfl⟩ (by kernel_rfl) rfl plain (by kernel_rfl)
end Go.Proofs.YtijbkiajhicooabDoor.wordsTabs
namespace Go.Proofs.YtijbkiajhicooabDoor
/-- The card, under a short name, for the claim. -/
theorem wordsTabs_holds : Rows.WordsTabsUptoCardSaid := wordsTabs.card
#print axioms wordsTabs_holds
end Go.Proofs.YtijbkiajhicooabDoor

