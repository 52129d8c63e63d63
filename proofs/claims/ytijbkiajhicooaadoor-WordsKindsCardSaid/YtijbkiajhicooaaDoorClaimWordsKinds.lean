/- words.Kind tells of every step the kind that the document's answer tells: WordsKinds returns true and leaves its argument as it was. No condition on the argument; step.bad holds what the program's text lays there (the tie). -/
import Derived.Test.YtijbkiajhicooaaDoorCards
import Derived.Test.YtijbkiajhicooaaDoorTie
import Derived.Test.YtijbkiajhicooaaDoorRows
import Derived.Test.YtijbkiajhicooaaDoorWordsKindsM4
import Derived.WalkKit
import Derived.ProofKit
import Derived.OpenShut
import Derived.ShutString
import Derived.ChangeOld
import Derived.Below
import Derived.SizedLaws
import Derived.Deep.DeepHandedRow
import Derived.Deep.Strs
import Derived.Lib.LaidTab
import Derived.Lib.SmallJoins
namespace Go.Proofs.YtijbkiajhicooaaDoor.wordsKinds
open Go.ChangeShapes Go.WideShapes Go.ChangeAt Go.RowKit
set_option linter.unusedVariables false
theorem own : ownKnob Tryd.prog.godebug = none := by kernel_rfl
theorem laidOut : laidOutB Tryd.prog = true := by kernel_rfl
def IsRow (k : IntKind) (w : World) (a : Option Addr) (len cap : Nat) (zs : List Int) : Prop :=
  (a = none ∧ len = 0 ∧ cap = 0 ∧ zs = []) ∨
  ∃ x, a = some x ∧ len ≤ cap ∧ cap ≤ maxLen ∧ zs.length = cap ∧ (∀ i, i < zs.length → w.cell? (x.add i) = some (.int k (zs.getD i 0))) ∧ ∀ n ∈ zs, (Lit.int k n).wf = true
theorem gBad : Tryd.prog.globalNamed "galley/step.bad" = some 0 := by kernel_rfl
theorem gBadType : (Tryd.prog.globals[0]?).map (·.type) = some 23 := by kernel_rfl
set_option maxRecDepth 100000 in
theorem bad {W : World} (h : laidMetH Tryd.prog Rows.wordsKindsRow.laid W) : Go.Proofs.YtijbkiajhicooaaDoor.PW.LaidBad W := by
  have h' : laidMet Tryd.prog (("galley/step.bad", Rows.laid_galley_step_bad) :: []) W := h
  obtain ⟨ps, ⟨g', t', cs, fuel, p, q, hg', ht', hvar, hd, _, _⟩, _⟩ := h'
  obtain rfl := Option.some.inj (gBad.symm.trans hg')
  obtain rfl := Option.some.inj (gBadType.symm.trans ht')
  obtain ⟨y0, y1, y2, n, hx, hl, h0, h1, h2⟩ := Go.Deep.trod_struct3 Tryd.underlying23 hd
  obtain ⟨z0, e0, rfl, _⟩ := DataW.trod_int Tryd.underlying21 h0
  obtain ⟨z1, e1, rfl, _⟩ := DataW.trod_int Tryd.underlying3 h1
  obtain ⟨z2, e2, rfl⟩ := DataW.trod_bool Tryd.underlying4 h2
  rw [show Tryd.prog.cellsOf 23 = 3 by kernel_rfl] at hl
  rw [show Tryd.prog.cellsOf 21 = 1 by kernel_rfl] at e0
  rw [show Tryd.prog.cellsOf 3 = 1 by kernel_rfl] at e1
  rw [show Tryd.prog.cellsOf 4 = 1 by kernel_rfl] at e2
  obtain ⟨cs⟩ := cs
  match cs, hl with
  | [c0, c1, c2], _ =>
    simp at e0 e1 e2
    subst e0 e1 e2
    simp [Rows.laid_galley_step_bad] at hx
    obtain ⟨⟨rfl, rfl, rfl⟩, _⟩ := hx
    have k0 := World.var?_cell gBad hvar 0
    have k1 := World.var?_cell gBad hvar 1
    have k2 := World.var?_cell gBad hvar 2
    exact ⟨World.block_lt_of_cell? W ⟨0, 0, none⟩ (by simpa using k0), by simpa using k0, by simpa using k1, by simpa using k2⟩
set_option maxRecDepth 100000 in
theorem contract (H : Type) (enc : TypeId × Value → H) (W : World) (base : Nat) (args : Array Value) (ds gs : List (DataW H)) (before : List MemPlace)
    (hval : ∀ (j : Nat) t v, Tryd.f3.params[j]? = some t → args[j]? = some v → Value.okWide Tryd.prog W .any base t v)
    (hW : DataW.Whole enc Tryd.prog Tryd.f3.params.toList Rows.wordsKindsSpec.vars false W args.toList ds gs before) (hL : laidMetH Tryd.prog Rows.wordsKindsRow.laid W) :
    Calls Tryd.prog 3 args W fun e W' => ∃ v, e = .returned v ∧ Rows.wordsKindsSpec.post enc Tryd.prog Tryd.f3 false true false false W args v W' := by
  have hW' := hW
  obtain ⟨p, q, hA0, hV, rfl, hfz, hnd⟩ := hW
  have hA : DataW.TrodAll enc Tryd.prog W 0 (fun _ => true) true Tryd.f3.params.toList args.toList ds p := hA0
  rw [Tryd.params3] at hA hval
  obtain ⟨v0, vs0, d0, ds0, p0, q0, hargs, rfl, rfl, h0, r0⟩ := trodAll_cons hA
  obtain ⟨rfl, rfl, rfl⟩ := trodAll_nil r0
  obtain rfl : args = #[v0] := by cases args; simp_all
  obtain ⟨rfl, rfl⟩ := trodVars_none hV
  have k0 := h0
  have lt0 : ∀ x ∈ p0, x.block < W.heap.size := by obtain ⟨m, hm⟩ := k0; exact DataW.trod_lt m _ _ _ hm
  obtain ⟨c0_0, c0_1, c0_2, y0_0, y0_1, y0_2, n0, rfl, rfl, rfl, t0_0, t0_1, t0_2⟩ := Go.Joins.open_agg3 Tryd.underlying23 (by kernel_rfl) (by kernel_rfl) (hval 0 23 v0 rfl rfl) h0
  obtain ⟨a0_0, e0_0, rfl, w0_0⟩ := DataW.trod_int Tryd.underlying21 t0_0
  obtain rfl := (List.cons.inj e0_0).1
  obtain ⟨a0_1, e0_1, rfl, w0_1⟩ := DataW.trod_int Tryd.underlying3 t0_1
  obtain rfl := (List.cons.inj e0_1).1
  obtain ⟨a0_2, e0_2, rfl⟩ := DataW.trod_bool Tryd.underlying4 t0_2
  obtain rfl := (List.cons.inj e0_2).1
  obtain ⟨k, hf⟩ := Pure.WordsKinds a0_0 a0_1 a0_2 w0_0 w0_1
  clear hA0
  refine (Go.Proofs.YtijbkiajhicooaaDoor.PW.galleylaw22_WordsKinds.calls k a0_0 a0_1 a0_2 true W (bad hL) hf).mono fun e W' ⟨he, bel0⟩ => ?_
  subst he
  have bel : Below W.heap.size W W' := bel0
  exact ⟨_, rfl, _, _, _, [], _, [], hW', trodAll_mk1 (shut_bool Tryd.underlying4 _), (trodAll_cons_mk (Below.trod laidOut (by kernel_rfl) (of_decide_eq_true (by kernel_rfl)) k0 bel lt0) trodAll_mk0), rfl, bel.frame _, fun h => by cases h⟩
noncomputable def laidWorld (os : Os) : World :=
  { World.holding Tryd.prog os ⟨#[], #[], []⟩ with heap := (World.holding Tryd.prog os ⟨#[], #[], []⟩).heap.modify 0 fun
      | .cells _ t frozen => .cells #[.int .i32 65533, .int .i64 1, .bool false] t frozen
      | o => o }
set_option maxRecDepth 100000 in
theorem laid_met (os : Os) : laidMet Tryd.prog Rows.wordsKindsRow.laid ((laidWorld os).forCall (fun _ _ => 0) ⟨#[], #[.agg #[.int .i32 0, .int .i64 0, .bool false]], []⟩).memory :=
  laidMet_of_run' 8 (by kernel_rfl) (by kernel_rfl)
set_option maxRecDepth 100000 in
theorem reads (os : Os) {H : Type} (enc : TypeId × Value → H) : ∃ places, DataW.whole enc Tryd.prog ((laidWorld os).forCall (fun _ _ => 0) ⟨#[], #[.agg #[.int .i32 0, .int .i64 0, .bool false]], []⟩).memory Tryd.f3.params.toList Rows.wordsKindsSpec.vars false (#[.agg #[.int .i32 0, .int .i64 0, .bool false]] : Array Value).toList 8 = some ([.agg [.lit (.int .i32 0), .lit (.int .i64 0), .lit (.bool false)]], [], places) :=
  ⟨[], by kernel_rfl⟩
set_option maxRecDepth 100000 in
theorem lifted (os : Os) (started : os.Started) (H : Type) (enc : TypeId × Value → H) (F : Stop.Interp) :
    ReturnsInHanded {} Tryd.checked os 3 .any ((OpenSpec.ofChange Rows.wordsKindsSpec).preRow enc Tryd.prog Tryd.f3 Rows.wordsKindsRow.domain false Rows.wordsKindsRow.laid) (((OpenSpec.ofChange Rows.wordsKindsSpec).at F).post enc Tryd.prog Tryd.f3 false true false false) := by
  obtain ⟨places, hx⟩ := reads os enc
  refine returnsInHanded_of_row (C := Tryd.checked) (s := OpenSpec.ofChange Rows.wordsKindsSpec) own started (by kernel_rfl) Tryd.func3
    (witness_row_at (enc := enc) (C := Tryd.checked) false (laidWorld os) #[.agg #[.int .i32 0, .int .i64 0, .bool false]] rfl (by kernel_rfl) (by kernel_rfl) (by kernel_rfl)
      (OpenSpec.preRow_of_cond 8 hx (by kernel_rfl) (fun k hk => by cases hk) (by kernel_rfl) (laid_met os))) ?_
  intro W base args ds gs before hval hW _ _ _ hL _ _
  exact contract H enc W base args ds gs before hval hW hL
set_option maxRecDepth 100000 in
theorem said : Rows.WordsKindsSaid :=
  OpenClaim.holds_of_cond 3 Tryd.f3 rfl rfl rfl rfl rfl rfl rfl ⟨rfl, rfl, rfl, rfl, rfl⟩ rfl rfl rfl rfl rfl (by kernel_rfl) Tryd.func3 (by kernel_rfl)
    (of_decide_eq_true (by kernel_rfl)) (by unfold Func.isWrapper; first | (rw [if_pos (by decide +kernel)]; kernel_rfl) | (rw [if_neg (by decide +kernel)]; exact ⟨rfl, rfl⟩))
    (fun os started H enc _ F => by rw [OpenClaim.pre_eq_preRow]; exact lifted os started H enc F)
set_option maxRecDepth 100000 in
theorem plain (f : FuncId) (fn : Func) (hf : Tryd.pinned.checked.prog.funcNamed "galley/galleylaw22.WordsKinds" = some f) (hfn : Tryd.pinned.checked.prog.funcs[f]? = some fn) :
    false = Tryd.pinned.checked.prog.looks [] ∧ ∀ (j : Nat) t, fn.params[j]? = some t → Tryd.pinned.checked.prog.wantsStandIn t = false := by
  obtain rfl : f = 3 := Option.some.inj ((show Tryd.prog.funcNamed "galley/galleylaw22.WordsKinds" = some 3 by kernel_rfl).symm.trans hf) |>.symm
  obtain rfl : fn = Tryd.f3 := (Option.some.inj (Tryd.func3.symm.trans hfn)).symm
  refine ⟨by kernel_rfl, fun j t ht => ?_⟩
  rw [Tryd.params3] at ht
  have hm := Array.mem_of_getElem? ht
  have hm' : t = 23 := by simpa using hm
  have wn23 : Tryd.prog.wantsStandIn 23 = false := by kernel_rfl
  rcases hm' with rfl
  all_goals first | exact wn23
set_option maxRecDepth 100000 in
theorem card : Rows.WordsKindsCardSaid :=
  Claim7.holds_tied_plain_at .later [] _ _ _ _ said (fun _ h => by cases h) (by kernel_rfl) (fun _ h => by cases h) wordsKinds_row_tie rfl ⟨rfl, rfl⟩ (by kernel_rfl) rfl plain (by kernel_rfl)
end Go.Proofs.YtijbkiajhicooaaDoor.wordsKinds
namespace Go.Proofs.YtijbkiajhicooaaDoor
/-- The card, under a short name, for the claim. -/
theorem wordsKinds_holds : Rows.WordsKindsCardSaid := wordsKinds.card
#print axioms wordsKinds_holds
end Go.Proofs.YtijbkiajhicooaaDoor

