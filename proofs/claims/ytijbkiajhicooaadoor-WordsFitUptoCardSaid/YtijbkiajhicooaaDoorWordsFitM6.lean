-- Written by merge.py, a program of this session's: PWx39 PureDecode PureEdges PureLines PureSteps PureRunsT PureRuns22 PureSlice PureColA PureFloor PureColC PureWordsAll PureWrapA PureWrapB PureFitA PureRows07 PureWordsColumns PureWordsWraps PureWordsFit
import Derived.Test.YtijbkiajhicooaaDoorWordsFitM1
import Derived.Lib.Bytes
import Derived.Test.YtijbkiajhicooaaDoorWordsFitM3
import Derived.Test.YtijbkiajhicooaaDoorWordsFitM2
import Derived.Test.YtijbkiajhicooaaDoorWordsFitM4
import Derived.Test.YtijbkiajhicooaaDoorWordsFitM5
namespace Go.Proofs.YtijbkiajhicooaaDoor.PW
open Go.RowKit Go.Proofs.YtijbkiajhicooaaDoorW.PrintWords Go.Proofs.YtijbkiajhicooaaDoorW.PrintLast Go.Proofs.YtijbkiajhicooaaDoorW.PrintMore
attribute [local go_sem] max2_int min2_int max_two min_two max_three min_three max_four min_four   -- for this text's walks alone
set_option linter.unusedVariables false
set_option linter.unusedSimpArgs false

def inB (a lo hi : Int) : Bool := decide (lo ≤ a) && decide (a ≤ hi)
def atI (l : List Int) (p : Int) : Int := if p < 0 ∨ p ≥ (l.length : Int) then -1 else wrap64 (rd l p)
def three (x y : Int) : Bool := (x == 224 && inB y 160 191) || (inB x 225 236 && inB y 128 191) || (x == 237 && inB y 128 159) || (inB x 238 239 && inB y 128 191)
def four (x y : Int) : Bool := (x == 240 && inB y 144 191) || (inB x 241 243 && inB y 128 191) || (x == 244 && inB y 128 143)
def longOf (x y z w : Int) : Int :=
 if inB x 0 127 then 1 else if inB x 194 223 && inB y 128 191 then 2 else if inB z 128 191 && three x y then 3 else if inB z 128 191 && inB w 128 191 && four x y then 4 else 0
def longAt (l : List Int) (p : Int) : Int := longOf (atI l p) (atI l (wrap64 (p + 1))) (atI l (wrap64 (p + 2))) (atI l (wrap64 (p + 3)))
end Go.Proofs.YtijbkiajhicooaaDoor.PW

namespace Go.Proofs.YtijbkiajhicooaaDoor.PW
open Go.RowKit Go.Proofs.YtijbkiajhicooaaDoorW.PrintWords Go.Proofs.YtijbkiajhicooaaDoorW.PrintLast Go.Proofs.YtijbkiajhicooaaDoorW.PrintMore
attribute [local go_sem] max2_int min2_int max_two min_two max_three min_three max_four min_four   -- for this text's walks alone
set_option linter.unusedVariables false
set_option linter.unusedSimpArgs false

def Bytes (l : List Int) : Prop := ∀ x ∈ l, 0 ≤ x ∧ x ≤ 255
theorem bytes_of_wf {l : List Int} (h : ∀ x ∈ l, (Lit.int .u8 x).wf = true) : Bytes l := fun x hx => by
 have := h x hx
 simp [Lit.wf] at this
 exact ⟨this.1, this.2⟩
theorem Bytes.drop {l : List Int} (h : Bytes l) (n : Nat) : Bytes (l.drop n) := fun x hx => h x (List.mem_of_mem_drop hx)
theorem rd_byte {l : List Int} (h : Bytes l) (p : Int) : 0 ≤ rd l p ∧ rd l p ≤ 255 := by
 unfold rd
 rw [List.getD_eq_getElem?_getD]
 cases hg : l[p.toNat]? with
 | none => exact ⟨Int.le_refl _, by decide⟩
 | some x => exact h x (List.mem_of_getElem? hg)
theorem wrap64_small {n : Int} (h0 : -9223372036854775808 ≤ n) (h1 : n ≤ 9223372036854775807) : wrap64 n = n := by unfold wrap64; omega
theorem atI_in {l : List Int} (hb : Bytes l) (p : Nat) (h : p < l.length) : atI l (p : Int) = l.getD p 0 ∧ 0 ≤ l.getD p 0 ∧ l.getD p 0 ≤ 255 := by
 have h1 := rd_byte hb (p : Int)
 have e : rd l (p : Int) = l.getD p 0 := by unfold rd; simp
 rw [e] at h1
 unfold atI
 rw [if_neg (by omega), e, wrap64_small (by omega) (by omega)]
 exact ⟨rfl, h1⟩
theorem atI_out (l : List Int) (p : Int) (h : p < 0 ∨ (l.length : Int) ≤ p) : atI l p = -1 := by
 unfold atI
 rw [if_pos (by omega)]
/-- The byte that decoding reads. -/
theorem getB {l : List Int} (hb : Bytes l) (p : Nat) (h : p < l.length) : (((strOfNums l).get! p).toNat : Int) = atI l (p : Int) := by
 obtain ⟨e, h0, h1⟩ := atI_in hb p h
 rw [e]
 have hg : l.getD p 0 = l[p] := by simp [List.getD, h]
 have : (strOfNums l).get! p = UInt8.ofNat (l[p]).toNat := by
  simp [ByteArray.get!, strOfNums, getElem!_def, h]
 rw [this, hg]
 rw [hg] at h0 h1
 simp
 omega
/-- Decoding, by the bytes at the place and behind it (-1: none). -/
def decV (x y z w : Int) : Int × Nat :=
 if x < 128 then (x, 1)
 else if x / 32 = 6 ∧ y / 64 = 2 then (if x % 32 * 64 + y % 64 ≥ 128 then (x % 32 * 64 + y % 64, 2) else (65533, 1))
 else if x / 16 = 14 ∧ y / 64 = 2 ∧ z / 64 = 2 then
  (if x % 16 * 4096 + y % 64 * 64 + z % 64 ≥ 2048 ∧ ¬ (55296 ≤ x % 16 * 4096 + y % 64 * 64 + z % 64 ∧ x % 16 * 4096 + y % 64 * 64 + z % 64 < 57344) then (x % 16 * 4096 + y % 64 * 64 + z % 64, 3) else (65533, 1))
 else if x / 8 = 30 ∧ y / 64 = 2 ∧ z / 64 = 2 ∧ w / 64 = 2 then
  (if x % 8 * 262144 + y % 64 * 4096 + z % 64 * 64 + w % 64 ≥ 65536 ∧ x % 8 * 262144 + y % 64 * 4096 + z % 64 * 64 + w % 64 ≤ 1114111 then (x % 8 * 262144 + y % 64 * 4096 + z % 64 * 64 + w % 64, 4) else (65533, 1))
 else (65533, 1)
theorem contB {l : List Int} (hb : Bytes l) (p : Nat) : (decide (p < (strOfNums l).size) && ((strOfNums l).get! p).toNat / 64 == 2) = decide (atI l (p : Int) / 64 = 2) := by
 rw [strOfNums_size]
 by_cases h : p < l.length
 ·have e := getB hb p h
  rw [decide_eq_true h, Bool.true_and, ← e]
  have : ((((strOfNums l).get! p).toNat : Int) / 64 = 2) ↔ (((strOfNums l).get! p).toNat / 64 = 2) := by omega
  rw [Bool.eq_iff_iff]
  simp only [beq_iff_eq, decide_eq_true_eq]
  exact this.symm
 ·rw [decide_eq_false h, Bool.false_and, atI_out l _ (by omega)]
  rfl
set_option maxRecDepth 100000 in
set_option maxHeartbeats 400000 in
theorem decode_int {l : List Int} (hb : Bytes l) (p : Nat) (h : p < l.length) :
  (((Utf8.decode (strOfNums l) p).1 : Int), (Utf8.decode (strOfNums l) p).2) = decV (atI l (p : Int)) (atI l (p + 1 : Nat)) (atI l (p + 2 : Nat)) (atI l (p + 3 : Nat)) := by
 have e0 := getB hb p h
 obtain ⟨_, x0, x1⟩ := atI_in hb p h
 rw [← (atI_in hb p h).1] at x0 x1
 have c1 := contB hb (p + 1)
 have c2 := contB hb (p + 2)
 have c3 := contB hb (p + 3)
 have ey : ∀ q, atI l (q : Nat) / 64 = 2 → (((strOfNums l).get! q).toNat : Int) = atI l (q : Nat) := fun q hq => by
  by_cases hl : q < l.length
  ·exact getB hb q hl
  ·rw [atI_out l _ (by omega)] at hq
   omega
 have e1 := ey (p + 1)
 have e2 := ey (p + 2)
 have e3 := ey (p + 3)
 unfold Utf8.decode decV
 simp only [Nat.add_zero]
 rw [c1, c2, c3]
 clear c1 c2 c3 ey
 obtain ⟨x, hx⟩ : ∃ x, atI l (p : Int) = x := ⟨_, rfl⟩
 obtain ⟨y, hy⟩ : ∃ x, atI l (p + 1 : Nat) = x := ⟨_, rfl⟩
 obtain ⟨z, hz⟩ : ∃ x, atI l (p + 2 : Nat) = x := ⟨_, rfl⟩
 obtain ⟨v, hv⟩ : ∃ x, atI l (p + 3 : Nat) = x := ⟨_, rfl⟩
 obtain ⟨b0, hb0⟩ : ∃ b, ((strOfNums l).get! p).toNat = b := ⟨_, rfl⟩
 obtain ⟨b1, hb1⟩ : ∃ b, ((strOfNums l).get! (p + 1)).toNat = b := ⟨_, rfl⟩
 obtain ⟨b2, hb2⟩ : ∃ b, ((strOfNums l).get! (p + 2)).toNat = b := ⟨_, rfl⟩
 obtain ⟨b3, hb3⟩ : ∃ b, ((strOfNums l).get! (p + 3)).toNat = b := ⟨_, rfl⟩
 rw [hx] at x0 x1 e0
 rw [hy] at e1
 rw [hz] at e2
 rw [hv] at e3
 rw [hb0] at e0
 rw [hb1] at e1
 rw [hb2] at e2
 rw [hb3] at e3
 simp only [hx, hy, hz, hv, hb0, hb1, hb2, hb3]
 clear hx hy hz hv hb0 hb1 hb2 hb3
 by_cases h0 : b0 < 128
 ·rw [if_pos h0, if_pos (by omega)]
  simp [e0]
 rw [if_neg h0, if_neg (show ¬ x < 128 by omega)]
 by_cases h1 : x / 32 = 6 ∧ y / 64 = 2
 ·have g1 := e1 h1.2
  rw [if_pos h1, if_pos (by simp; omega)]
  by_cases h2 : x % 32 * 64 + y % 64 ≥ 128
  ·rw [if_pos h2, if_pos (by omega)]
   simp
   omega
  ·rw [if_neg h2, if_neg (by omega)]
   simp [Utf8.runeError]
 rw [if_neg h1, if_neg (by simp; omega)]
 by_cases h3 : x / 16 = 14 ∧ y / 64 = 2 ∧ z / 64 = 2
 ·have g1 := e1 h3.2.1
  have g2 := e2 h3.2.2
  rw [if_pos h3, if_pos (by simp; omega)]
  by_cases h4 : x % 16 * 4096 + y % 64 * 64 + z % 64 ≥ 2048 ∧ ¬ (55296 ≤ x % 16 * 4096 + y % 64 * 64 + z % 64 ∧ x % 16 * 4096 + y % 64 * 64 + z % 64 < 57344)
  ·rw [if_pos h4, if_pos (by simp [Utf8.valid]; omega)]
   simp
   omega
  ·rw [if_neg h4, if_neg (by simp [Utf8.valid]; omega)]
   simp [Utf8.runeError]
 rw [if_neg h3, if_neg (by simp; omega)]
 by_cases h5 : x / 8 = 30 ∧ y / 64 = 2 ∧ z / 64 = 2 ∧ v / 64 = 2
 ·have g1 := e1 h5.2.1
  have g2 := e2 h5.2.2.1
  have g3 := e3 h5.2.2.2
  rw [if_pos h5, if_pos (by simp; omega)]
  by_cases h6 : x % 8 * 262144 + y % 64 * 4096 + z % 64 * 64 + v % 64 ≥ 65536 ∧ x % 8 * 262144 + y % 64 * 4096 + z % 64 * 64 + v % 64 ≤ 1114111
  ·rw [if_pos h6, if_pos (by simp [Utf8.valid]; omega)]
   simp
   omega
  ·rw [if_neg h6, if_neg (by simp [Utf8.valid]; omega)]
   simp [Utf8.runeError]
 rw [if_neg h5, if_neg (by simp; omega)]
 simp [Utf8.runeError]
def isOne (x : Int) : Prop := 0 ≤ x ∧ x ≤ 127
def isTwo (x y : Int) : Prop := 194 ≤ x ∧ x ≤ 223 ∧ 128 ≤ y ∧ y ≤ 191
def isThree (x y z : Int) : Prop := 128 ≤ z ∧ z ≤ 191 ∧ ((x = 224 ∧ 160 ≤ y ∧ y ≤ 191) ∨ (225 ≤ x ∧ x ≤ 236 ∧ 128 ≤ y ∧ y ≤ 191) ∨ (x = 237 ∧ 128 ≤ y ∧ y ≤ 159) ∨ (238 ≤ x ∧ x ≤ 239 ∧ 128 ≤ y ∧ y ≤ 191))
def isFour (x y z w : Int) : Prop := 128 ≤ z ∧ z ≤ 191 ∧ 128 ≤ w ∧ w ≤ 191 ∧ ((x = 240 ∧ 144 ≤ y ∧ y ≤ 191) ∨ (241 ≤ x ∧ x ≤ 243 ∧ 128 ≤ y ∧ y ≤ 191) ∨ (x = 244 ∧ 128 ≤ y ∧ y ≤ 143))
theorem longOf_cases (x y z w : Int) : (isOne x ∧ longOf x y z w = 1) ∨ (isTwo x y ∧ longOf x y z w = 2) ∨ (isThree x y z ∧ longOf x y z w = 3) ∨ (isFour x y z w ∧ longOf x y z w = 4) ∨
  (¬ isOne x ∧ ¬ isTwo x y ∧ ¬ isThree x y z ∧ ¬ isFour x y z w ∧ longOf x y z w = 0) := by
 have e1 : (inB x 0 127 = true) ↔ isOne x := by simp [inB, isOne]
 have e2 : (inB x 194 223 && inB y 128 191) = true ↔ isTwo x y := by simp [inB, isTwo]; omega
 have e3 : (inB z 128 191 && three x y) = true ↔ isThree x y z := by simp [inB, isThree, three]; omega
 have e4 : (inB z 128 191 && inB w 128 191 && four x y) = true ↔ isFour x y z w := by simp [inB, isFour, four]; omega
 unfold longOf
 by_cases h1 : isOne x
 ·exact .inl ⟨h1, by rw [if_pos (e1.2 h1)]⟩
 rw [if_neg (fun h => h1 (e1.1 h))]
 by_cases h2 : isTwo x y
 ·exact .inr (.inl ⟨h2, by rw [if_pos (e2.2 h2)]⟩)
 rw [if_neg (fun h => h2 (e2.1 h))]
 by_cases h3 : isThree x y z
 ·exact .inr (.inr (.inl ⟨h3, by rw [if_pos (e3.2 h3)]⟩))
 rw [if_neg (fun h => h3 (e3.1 h))]
 by_cases h4 : isFour x y z w
 ·exact .inr (.inr (.inr (.inl ⟨h4, by rw [if_pos (e4.2 h4)]⟩)))
 rw [if_neg (fun h => h4 (e4.1 h))]
 exact .inr (.inr (.inr (.inr ⟨h1, h2, h3, h4, rfl⟩)))
/-- The rune of an encoding. -/
def runeV (x y z w : Int) : Int := if longOf x y z w = 1 then x else if longOf x y z w = 2 then x % 32 * 64 + y % 64 else if longOf x y z w = 3 then x % 16 * 4096 + y % 64 * 64 + z % 64 else x % 8 * 262144 + y % 64 * 4096 + z % 64 * 64 + w % 64
theorem decV_long (x y z w : Int) (hx0 : 0 ≤ x) (hx1 : x ≤ 255) (hy : y ≤ 255) (hz : z ≤ 255) (hw : w ≤ 255) (hy0 : -1 ≤ y) (hz0 : -1 ≤ z) (hw0 : -1 ≤ w) :
  (longOf x y z w = 0 → decV x y z w = (65533, 1) ∧ ¬ (x = 239 ∧ y = 191 ∧ z = 189)) ∧
  (longOf x y z w ≠ 0 → decV x y z w = (runeV x y z w, (longOf x y z w).toNat) ∧ (runeV x y z w = 65533 ↔ (x = 239 ∧ y = 191 ∧ z = 189))) := by
 rcases longOf_cases x y z w with ⟨h, e⟩ | ⟨h, e⟩ | ⟨h, e⟩ | ⟨h, e⟩ | ⟨h1, h2, h3, h4, e⟩
 ·refine ⟨fun h0 => by omega, fun _ => ?_⟩
  unfold isOne at h
  have hr : runeV x y z w = x := by simp [runeV, e]
  rw [hr, e]
  unfold decV
  rw [if_pos (by omega)]
  exact ⟨rfl, by omega⟩
 ·refine ⟨fun h0 => by omega, fun _ => ?_⟩
  unfold isTwo at h
  have hr : runeV x y z w = x % 32 * 64 + y % 64 := by simp [runeV, e]
  rw [hr, e]
  unfold decV
  rw [if_neg (by omega), if_pos (by omega), if_pos (by omega)]
  exact ⟨rfl, by omega⟩
 ·refine ⟨fun h0 => by omega, fun _ => ?_⟩
  unfold isThree at h
  have hr : runeV x y z w = x % 16 * 4096 + y % 64 * 64 + z % 64 := by simp [runeV, e]
  rw [hr, e]
  unfold decV
  rw [if_neg (by omega), if_neg (by omega), if_pos (by omega), if_pos (by omega)]
  exact ⟨rfl, by omega⟩
 ·refine ⟨fun h0 => by omega, fun _ => ?_⟩
  unfold isFour at h
  have hr : runeV x y z w = x % 8 * 262144 + y % 64 * 4096 + z % 64 * 64 + w % 64 := by simp [runeV, e]
  rw [hr, e]
  unfold decV
  rw [if_neg (by omega), if_neg (by omega), if_neg (by omega), if_pos (by omega), if_pos (by omega)]
  exact ⟨rfl, by omega⟩
 ·refine ⟨fun _ => ?_, fun h0 => absurd e h0⟩
  unfold isOne at h1
  unfold isTwo at h2
  unfold isThree at h3
  unfold isFour at h4
  refine ⟨?_, by omega⟩
  unfold decV
  rw [if_neg (by omega)]
  by_cases g1 : x / 32 = 6 ∧ y / 64 = 2
  ·rw [if_pos g1, if_neg (by omega)]
  rw [if_neg g1]
  by_cases g2 : x / 16 = 14 ∧ y / 64 = 2 ∧ z / 64 = 2
  ·rw [if_pos g2, if_neg (by omega)]
  rw [if_neg g2]
  by_cases g3 : x / 8 = 30 ∧ y / 64 = 2 ∧ z / 64 = 2 ∧ w / 64 = 2
  ·rw [if_pos g3, if_neg (by omega)]
  rw [if_neg g3]
theorem strOfNums_drop (l : List Int) (p : Nat) : (strOfNums l).extract p (strOfNums l).size = strOfNums (l.drop p) := by
 apply ByteArray.ext
 rw [ByteArray.data_extract]
 apply Array.ext'
 rw [Array.toList_extract, strOfNums_size]
 simp only [strOfNums, List.extract_eq_take_drop]
 rw [List.map_drop]
 apply List.take_of_length_le
 simp
theorem atI_drop (l : List Int) (p q : Nat) : atI (l.drop p) (q : Int) = atI l (p + q : Nat) := by
 unfold atI rd
 simp only [List.length_drop, Int.toNat_natCast, List.getD_eq_getElem?_getD, List.getElem?_drop]
 by_cases h : p + q < l.length
 ·rw [if_neg (by omega), if_neg (by omega)]
 ·rw [if_pos (by omega), if_pos (by omega)]
theorem encode_size (r : Int) (h0 : 0 ≤ r) (h1 : r < 55296 ∨ (57344 ≤ r ∧ r ≤ 1114111)) : (Utf8.encode r).size = if r < 128 then 1 else if r < 2048 then 2 else if r < 65536 then 3 else 4 := by
 have hv : Utf8.valid r = true := by simp [Utf8.valid]; omega
 unfold Utf8.encode
 simp only [hv, if_true]
 by_cases g1 : r < 128
 ·rw [if_pos g1, if_pos (by omega)]; rfl
 rw [if_neg g1, if_neg (by omega)]
 by_cases g2 : r < 2048
 ·rw [if_pos g2, if_pos (by omega)]; rfl
 rw [if_neg g2, if_neg (by omega)]
 by_cases g3 : r < 65536
 ·rw [if_pos g3, if_pos (by omega)]; rfl
 rw [if_neg g3, if_neg (by omega)]; rfl
theorem runeV_size (x y z w : Int) (hx0 : 0 ≤ x) (hx1 : x ≤ 255) (hy : y ≤ 255) (hz : z ≤ 255) (hw : w ≤ 255) (h : longOf x y z w ≠ 0) : ((Utf8.encode (runeV x y z w)).size : Int) = longOf x y z w := by
 rcases longOf_cases x y z w with ⟨h, e⟩ | ⟨h, e⟩ | ⟨h, e⟩ | ⟨h, e⟩ | ⟨h1, h2, h3, h4, e⟩
 ·have hr : runeV x y z w = x := by simp [runeV, e]
  unfold isOne at h
  rw [hr, e, encode_size _ (by omega) (by omega), if_pos (by omega)]; rfl
 ·have hr : runeV x y z w = x % 32 * 64 + y % 64 := by simp [runeV, e]
  unfold isTwo at h
  rw [hr, e, encode_size _ (by omega) (by omega), if_neg (by omega), if_pos (by omega)]; rfl
 ·have hr : runeV x y z w = x % 16 * 4096 + y % 64 * 64 + z % 64 := by simp [runeV, e]
  unfold isThree at h
  rw [hr, e, encode_size _ (by omega) (by omega), if_neg (by omega), if_neg (by omega), if_pos (by omega)]; rfl
 ·have hr : runeV x y z w = x % 8 * 262144 + y % 64 * 4096 + z % 64 * 64 + w % 64 := by simp [runeV, e]
  unfold isFour at h
  rw [hr, e, encode_size _ (by omega) (by omega), if_neg (by omega), if_neg (by omega), if_neg (by omega)]; rfl
 ·exact absurd e h
theorem atI_range {l : List Int} (hb : Bytes l) (p : Nat) : -1 ≤ atI l (p : Int) ∧ atI l (p : Int) ≤ 255 := by
 by_cases h : p < l.length
 ·obtain ⟨e, h0, h1⟩ := atI_in hb p h
  rw [e]; omega
 ·rw [atI_out l _ (by omega)]; omega
theorem hasFD_int {l : List Int} (hb : Bytes l) : hasFD (strOfNums l) = true ↔ (atI l (0 : Nat) = 239 ∧ atI l (1 : Nat) = 191 ∧ atI l (2 : Nat) = 189) := by
 match l, hb with
 | [], _ => simp [hasFD, strOfNums_size, atI]
 | [a], _ => simp [hasFD, strOfNums_size, atI]
 | [a, b], _ => simp [hasFD, strOfNums_size, atI]
 | a :: b :: c :: r, hb =>
  have ha := hb a (by simp)
  have hb' := hb b (by simp)
  have hc := hb c (by simp)
  have e0 := (atI_in hb 0 (by simp)).1
  have e1 := (atI_in hb 1 (by simp)).1
  have e2 := (atI_in hb 2 (by simp)).1
  rw [e0, e1, e2]
  have hx : ((strOfNums (a :: b :: c :: r)).extract 0 3).toList = [UInt8.ofNat a.toNat, UInt8.ofNat b.toNat, UInt8.ofNat c.toNat] := by
   have he : (strOfNums (a :: b :: c :: r)).extract 0 3 = strOfNums [a, b, c] := by
    apply ByteArray.ext
    rw [ByteArray.data_extract]
    apply Array.ext'
    rw [Array.toList_extract]
    simp [strOfNums]
   rw [he, Lib.strOfNums_toList]
   rfl
  have u : ∀ (n : Int) (k : Nat), 0 ≤ n → n ≤ 255 → k ≤ 255 → ((UInt8.ofNat n.toNat = UInt8.ofNat k) ↔ n = (k : Int)) := by
   intro n k h0 h1 h2
   rw [← UInt8.toNat_inj]
   simp
   omega
  unfold hasFD
  rw [hx, strOfNums_size]
  have u0 := u a 239 ha.1 ha.2 (by decide)
  have u1 := u b 191 hb'.1 hb'.2 (by decide)
  have u2 := u c 189 hc.1 hc.2 (by decide)
  simp only [beq_iff_eq, Bool.and_eq_true, decide_eq_true_eq, List.cons.injEq, and_true]
  have v0 : (UInt8.ofNat a.toNat = (239 : UInt8)) ↔ a = 239 := u0
  have v1 : (UInt8.ofNat b.toNat = (191 : UInt8)) ↔ b = 191 := u1
  have v2 : (UInt8.ofNat c.toNat = (189 : UInt8)) ↔ c = 189 := u2
  rw [v0, v1, v2]
  simp
/-- The step at a place, by the table. -/
def ofL (l : List Int) (p : Nat) : Int × Int × Bool :=
 if longAt l (p : Int) = 0 then (65533, 1, false) else (runeV (atI l (p : Int)) (atI l (p + 1 : Nat)) (atI l (p + 2 : Nat)) (atI l (p + 3 : Nat)), longAt l (p : Int), true)
theorem longAt_nat (l : List Int) (p : Nat) (hp : p ≤ 4611686018427387904) : longAt l (p : Int) = longOf (atI l (p : Int)) (atI l (p + 1 : Nat)) (atI l (p + 2 : Nat)) (atI l (p + 3 : Nat)) := by
 unfold longAt
 rw [wrap64_small (by omega) (by omega), wrap64_small (by omega) (by omega), wrap64_small (by omega) (by omega)]
 rfl
theorem first_of {l : List Int} (hb : Bytes l) (p : Nat) (hp : p < l.length) (hl : l.length ≤ 4611686018427387904) :
  firstOf ((strOfNums l).extract p (strOfNums l).size) = ofL l p ∧ ((Utf8.decode (strOfNums l) p).2 : Int) = (ofL l p).2.1 := by
 have d1 := decode_int hb p hp
 have d2 := decode_int (hb.drop p) 0 (by simp; omega)
 have r0 := atI_range hb p
 have r1 := atI_range hb (p + 1)
 have r2 := atI_range hb (p + 2)
 have r3 := atI_range hb (p + 3)
 have hx0 : 0 ≤ atI l (p : Int) := by rw [(atI_in hb p hp).1]; exact (atI_in hb p hp).2.1
 have q0 := atI_drop l p 0
 have q1 := atI_drop l p 1
 have q2 := atI_drop l p 2
 have q3 := atI_drop l p 3
 have hfd := hasFD_int (hb.drop p)
 simp only [Nat.zero_add, Nat.add_zero] at d2 q0 q1 q2 q3
 rw [q0, q1, q2, q3] at d2
 rw [q0, q1, q2] at hfd
 have hlong := longAt_nat l p (by omega)
 rw [strOfNums_drop]
 unfold ofL firstOf
 rw [hlong, strOfNums_size, if_neg (by simp; omega)]
 have hD := decV_long (atI l (p : Int)) (atI l (p + 1 : Nat)) (atI l (p + 2 : Nat)) (atI l (p + 3 : Nat)) hx0 r0.2 r1.2 r2.2 r3.2 r1.1 r2.1 r3.1
 have hS := runeV_size (atI l (p : Int)) (atI l (p + 1 : Nat)) (atI l (p + 2 : Nat)) (atI l (p + 3 : Nat)) hx0 r0.2 r1.2 r2.2 r3.2
 obtain ⟨x, hx⟩ : ∃ x, atI l (p : Int) = x := ⟨_, rfl⟩
 obtain ⟨y, hy⟩ : ∃ x, atI l (p + 1 : Nat) = x := ⟨_, rfl⟩
 obtain ⟨z, hz⟩ : ∃ x, atI l (p + 2 : Nat) = x := ⟨_, rfl⟩
 obtain ⟨v, hv⟩ : ∃ x, atI l (p + 3 : Nat) = x := ⟨_, rfl⟩
 simp only [hx, hy, hz, hv] at d1 d2 hfd hD hS ⊢
 clear q0 q1 q2 q3 hx hy hz hv hlong r0 r1 r2 r3 hx0
 by_cases h0 : longOf x y z v = 0
 ·obtain ⟨hd, hn⟩ := hD.1 h0
  rw [hd] at d1 d2
  simp only [Prod.mk.injEq] at d1 d2
  have e1 : (Utf8.decode (strOfNums (l.drop p)) 0).1 = 65533 := by omega
  rw [if_pos h0, if_pos e1, if_neg (fun h => hn (hfd.1 h))]
  exact ⟨rfl, by rw [d1.2]; rfl⟩
 ·obtain ⟨hd, hr⟩ := hD.2 h0
  have hs := hS h0
  rw [hd] at d1 d2
  simp only [Prod.mk.injEq] at d1 d2
  have hpos : 0 ≤ longOf x y z v := by rw [← hs]; omega
  rw [if_neg h0]
  by_cases hr3 : runeV x y z v = 65533
  ·have e1 : (Utf8.decode (strOfNums (l.drop p)) 0).1 = 65533 := by omega
   rw [if_pos e1, if_pos (hfd.2 (hr.1 hr3)), hr3]
   have hl3 : longOf x y z v = 3 := by
    rw [hr3] at hs
    rw [← hs]
    rfl
   rw [hl3] at d1 ⊢
   exact ⟨rfl, by rw [d1.2]; rfl⟩
  ·have e1 : ¬ (Utf8.decode (strOfNums (l.drop p)) 0).1 = 65533 := by omega
   rw [if_neg e1, d2.1, hs]
   refine ⟨rfl, ?_⟩
   show ((Utf8.decode (strOfNums l) p).2 : Int) = longOf x y z v
   rw [d1.2]
   omega

end Go.Proofs.YtijbkiajhicooaaDoor.PW

namespace Go.Proofs.YtijbkiajhicooaaDoor.PW
open Go.RowKit Go.Proofs.YtijbkiajhicooaaDoorW.PrintWords Go.Proofs.YtijbkiajhicooaaDoorW.PrintLast Go.Proofs.YtijbkiajhicooaaDoorW.PrintMore
attribute [local go_sem] max2_int min2_int max_two min_two max_three min_three max_four min_four   -- for this text's walks alone
set_option linter.unusedVariables false
set_option linter.unusedSimpArgs false

def Ev {β : Type} (g : Nat → Option β) (v : β) : Prop := ∃ K, ∀ k, K ≤ k → g k = some v
theorem Ev.pure {β : Type} (v : β) : Ev (fun _ => some v) v := ⟨0, fun _ _ => rfl⟩
theorem Ev.of_eq {β : Type} {g : Nat → Option β} {v : β} (h : ∀ k, g k = some v) : Ev g v := ⟨0, fun k _ => h k⟩
theorem Ev.bind {α β : Type} {g : Nat → Option α} {h : Nat → α → Option β} {v : α} {u : β} (hg : Ev g v) (hh : Ev (fun k => h k v) u) : Ev (fun k => (g k).bind (h k)) u := by
 obtain ⟨K, hK⟩ := hg
 obtain ⟨M, hM⟩ := hh
 refine ⟨max K M, fun k hk => ?_⟩
 show (g k).bind (h k) = some u
 rw [hK k (by omega)]
 exact hM k (by omega)
theorem Ev.succ {β : Type} {g h : Nat → Option β} {v : β} (hh : Ev h v) (e : ∀ k, g (k + 1) = h k) : Ev g v := by
 obtain ⟨K, hK⟩ := hh
 refine ⟨K + 1, fun k hk => ?_⟩
 obtain ⟨m, rfl⟩ : ∃ m, k = m + 1 := ⟨k - 1, by omega⟩
 rw [e]
 exact hK m (by omega)
theorem Ev.some {β : Type} {g : Nat → Option β} {v : β} (h : Ev g v) : ∃ k, g k = some v := by
 obtain ⟨K, hK⟩ := h
 exact ⟨K, hK K (Nat.le_refl _)⟩
/-- Does an encoding begin ahead of the place and end behind it? -/
def insideB (l : List Int) (p : Nat) : Bool :=
 (decide (1 ≤ p) && decide (longAt l ((p - 1 : Nat) : Int) > 1)) || (decide (2 ≤ p) && decide (longAt l ((p - 2 : Nat) : Int) > 2)) || (decide (3 ≤ p) && decide (longAt l ((p - 3 : Nat) : Int) > 3))
end Go.Proofs.YtijbkiajhicooaaDoor.PW

namespace Go.Proofs.YtijbkiajhicooaaDoor.PW
open Go.RowKit Go.Proofs.YtijbkiajhicooaaDoorW.PrintWords Go.Proofs.YtijbkiajhicooaaDoorW.PrintLast Go.Proofs.YtijbkiajhicooaaDoorW.PrintMore
attribute [local go_sem] max2_int min2_int max_two min_two max_three min_three max_four min_four   -- for this text's walks alone
set_option linter.unusedVariables false
set_option linter.unusedSimpArgs false

/-- No line end stands from a on and ahead of b. -/
def PlainTo (l : List Int) (a b : Int) : Prop := ∀ q : Int, a ≤ q → q < b → rd l q ≠ 10 ∧ rd l q ≠ 13
/-- A line that is not the last one ends with a line end. -/
def EndsAt (l : List Int) (r : S127) : Prop :=
 (r.f1 < (l.length : Int) ∧ rd l r.f1 = 10 ∧ r.f2 = r.f1 ∧ r.f3 = r.f1 + 1) ∨
 (r.f1 + 1 < (l.length : Int) ∧ rd l r.f1 = 13 ∧ rd l (r.f1 + 1) = 10 ∧ r.f2 = r.f1 + 1 ∧ r.f3 = r.f1 + 2) ∨
 (r.f1 < (l.length : Int) ∧ rd l r.f1 = 13 ∧ ¬ (r.f1 + 1 < (l.length : Int) ∧ rd l (r.f1 + 1) = 10) ∧ r.f2 = r.f1 ∧ r.f3 = r.f1 + 1)
/-- Lines from a place on. -/
def LChain (l : List Int) : Int → List S127 → Prop
 | _, [] => False
 | a, r :: rs => r.f0 = a ∧ a ≤ r.f1 ∧ PlainTo l a r.f1 ∧ ((rs = [] ∧ r.f1 = (l.length : Int) ∧ r.f2 = (l.length : Int) ∧ r.f3 = (l.length : Int)) ∨ (EndsAt l r ∧ LChain l r.f3 rs))
theorem lineAt_out (l : List Int) : ∀ (k : Nat) (start i : Int) (out : List S127), lineAt l k start i out = out ++ lineAt l k start i [] := by
 intro k
 induction k with
 | zero => intro start i out; simp [lineAt]
 | succ k ih =>
  intro start i out
  simp only [lineAt]
  by_cases h : i < (l.length : Int)
  ·rw [if_pos h, if_pos h]
   by_cases h1 : rd l i = 10
   ·rw [if_pos h1, if_pos h1, ih _ _ (out ++ _), ih _ _ ([] ++ _)]
    simp
   ·rw [if_neg h1, if_neg h1]
    by_cases h2 : rd l i = 13
    ·rw [if_pos h2, if_pos h2]
     by_cases h3 : i + 1 < (l.length : Int) ∧ rd l (i + 1) = 10
     ·rw [if_pos h3, if_pos h3, ih _ _ (out ++ _), ih _ _ ([] ++ _)]
      simp
     ·rw [if_neg h3, if_neg h3, ih _ _ (out ++ _), ih _ _ ([] ++ _)]
      simp
    ·rw [if_neg h2, if_neg h2]
     exact ih _ _ out
  ·rw [if_neg h, if_neg h]
   simp
theorem lineAt_chain (l : List Int) : ∀ (k : Nat) (start i : Int), 0 ≤ start → start ≤ i → i ≤ (l.length : Int) → (l.length : Int) - i < k → PlainTo l start i → LChain l start (lineAt l k start i []) := by
 intro k
 induction k with
 | zero => intro start i h0 h1 h2 h3; omega
 | succ k ih =>
  intro start i h0 h1 h2 h3 hp
  simp only [lineAt]
  by_cases h : i < (l.length : Int)
  ·rw [if_pos h]
   by_cases g1 : rd l i = 10
   ·rw [if_pos g1, lineAt_out]
    refine ⟨rfl, h1, hp, .inr ⟨.inl ⟨h, g1, rfl, rfl⟩, ih (i + 1) (i + 1) (by omega) (Int.le_refl _) (by omega) (by omega) (fun q a b => by omega)⟩⟩
   ·rw [if_neg g1]
    by_cases g2 : rd l i = 13
    ·rw [if_pos g2]
     by_cases g3 : i + 1 < (l.length : Int) ∧ rd l (i + 1) = 10
     ·rw [if_pos g3, lineAt_out]
      exact ⟨rfl, h1, hp, .inr ⟨.inr (.inl ⟨g3.1, g2, g3.2, rfl, rfl⟩), ih (i + 2) (i + 2) (by omega) (Int.le_refl _) (by omega) (by omega) (fun q a b => by omega)⟩⟩
     ·rw [if_neg g3, lineAt_out]
      exact ⟨rfl, h1, hp, .inr ⟨.inr (.inr ⟨h, g2, g3, rfl, rfl⟩), ih (i + 1) (i + 1) (by omega) (Int.le_refl _) (by omega) (by omega) (fun q a b => by omega)⟩⟩
    ·rw [if_neg g2]
     refine ih start (i + 1) h0 (by omega) (by omega) (by omega) (fun q a b => ?_)
     by_cases e : q = i
     ·rw [e]; exact ⟨g1, g2⟩
     ·exact hp q a (by omega)
  ·rw [if_neg h]
   obtain rfl : i = (l.length : Int) := by omega
   exact ⟨rfl, h1, hp, .inl ⟨rfl, rfl, rfl, rfl⟩⟩
theorem allLines_chain (l : List Int) : LChain l 0 (allLines l) :=
 lineAt_chain l _ 0 0 (Int.le_refl _) (Int.le_refl _) (by omega) (by omega) (fun q a b => by omega)

end Go.Proofs.YtijbkiajhicooaaDoor.PW

namespace Go.Proofs.YtijbkiajhicooaaDoor.PW
open Go.RowKit Go.Proofs.YtijbkiajhicooaaDoorW.PrintWords Go.Proofs.YtijbkiajhicooaaDoorW.PrintLast Go.Proofs.YtijbkiajhicooaaDoorW.PrintMore
attribute [local go_sem] max2_int min2_int max_two min_two max_three min_three max_four min_four   -- for this text's walks alone
set_option linter.unusedVariables false
set_option linter.unusedSimpArgs false

/-- How far the step at a place goes. -/
def widL (l : List Int) (p : Nat) : Nat := if longAt l (p : Int) = 0 then 1 else (longAt l (p : Int)).toNat
theorem longAt_facts {l : List Int} (hb : Bytes l) (p : Nat) (hl : l.length ≤ 4398046511104) (hp : p ≤ l.length) :
  0 ≤ longAt l (p : Int) ∧ longAt l (p : Int) ≤ 4 ∧ (0 < longAt l (p : Int) → p + (longAt l (p : Int)).toNat ≤ l.length) ∧
  (∀ j : Nat, 1 ≤ j → (j : Int) < longAt l (p : Int) → 128 ≤ atI l (p + j : Nat) ∧ atI l (p + j : Nat) ≤ 191) ∧ (128 ≤ atI l (p : Int) ∧ atI l (p : Int) ≤ 191 → longAt l (p : Int) = 0) := by
 have hlong := longAt_nat l p (by omega)
 have r1 : 0 ≤ atI l (p + 1 : Nat) → p + 1 < l.length := fun h => by
  by_cases g : p + 1 < l.length
  ·exact g
  ·rw [atI_out l _ (by omega)] at h; omega
 have r2 : 0 ≤ atI l (p + 2 : Nat) → p + 2 < l.length := fun h => by
  by_cases g : p + 2 < l.length
  ·exact g
  ·rw [atI_out l _ (by omega)] at h; omega
 have r3 : 0 ≤ atI l (p + 3 : Nat) → p + 3 < l.length := fun h => by
  by_cases g : p + 3 < l.length
  ·exact g
  ·rw [atI_out l _ (by omega)] at h; omega
 have r0 : 0 ≤ atI l (p : Int) → p < l.length := fun h => by
  by_cases g : p < l.length
  ·exact g
  ·rw [atI_out l _ (by omega)] at h; omega
 have sp : ∀ j : Nat, 1 ≤ j → (j : Int) < 4 → j = 1 ∨ j = 2 ∨ j = 3 := fun j h1 h2 => by omega
 rw [hlong]
 rcases longOf_cases (atI l (p : Int)) (atI l (p + 1 : Nat)) (atI l (p + 2 : Nat)) (atI l (p + 3 : Nat)) with ⟨h, e⟩ | ⟨h, e⟩ | ⟨h, e⟩ | ⟨h, e⟩ | ⟨h1, h2, h3, h4, e⟩
 ·unfold isOne at h
  rw [e]
  exact ⟨by omega, by omega, fun _ => by have := r0 (by omega); simp; omega, fun j h1 h2 => by omega, fun g => by omega⟩
 ·unfold isTwo at h
  rw [e]
  refine ⟨by omega, by omega, fun _ => by have := r1 (by omega); simp; omega, fun j h1 h2 => ?_, fun g => by omega⟩
  obtain rfl : j = 1 := by omega
  omega
 ·unfold isThree at h
  rw [e]
  refine ⟨by omega, by omega, fun _ => by have := r2 (by omega); simp; omega, fun j h1 h2 => ?_, fun g => by omega⟩
  rcases (show j = 1 ∨ j = 2 by omega) with rfl | rfl
  ·omega
  ·omega
 ·unfold isFour at h
  rw [e]
  refine ⟨by omega, by omega, fun _ => by have := r3 (by omega); simp; omega, fun j h1 h2 => ?_, fun g => by omega⟩
  rcases sp j h1 h2 with rfl | rfl | rfl
  ·omega
  ·omega
  ·omega
 ·rw [e]
  exact ⟨by omega, by omega, fun h => by omega, fun j h1 h2 => by omega, fun _ => rfl⟩
theorem widL_pos {l : List Int} (hb : Bytes l) (p : Nat) (hl : l.length ≤ 4398046511104) (hp : p < l.length) : 1 ≤ widL l p ∧ widL l p ≤ 4 ∧ p + widL l p ≤ l.length := by
 obtain ⟨h0, h1, h2, _, _⟩ := longAt_facts hb p hl (by omega)
 unfold widL
 by_cases h : longAt l (p : Int) = 0
 ·rw [if_pos h]; omega
 ·rw [if_neg h]
  have := h2 (by omega)
  omega
/-- A place where a step begins: no encoding reaches over it. -/
def Vis (l : List Int) (p : Nat) : Prop := ∀ j : Nat, 1 ≤ j → j ≤ 3 → j ≤ p → longAt l ((p - j : Nat) : Int) ≤ j
theorem inside_vis {l : List Int} {p : Nat} (h : Vis l p) : insideB l p = false := by
 unfold insideB
 have h1 := h 1 (by omega) (by omega)
 have h2 := h 2 (by omega) (by omega)
 have h3 := h 3 (by omega) (by omega)
 by_cases g1 : 1 ≤ p
 ·have := h1 g1
  by_cases g2 : 2 ≤ p
  ·have := h2 g2
   by_cases g3 : 3 ≤ p
   ·have := h3 g3
    simp; omega
   ·simp; omega
  ·simp; omega
 ·simp; omega
theorem vis_next {l : List Int} (hb : Bytes l) {p : Nat} (hl : l.length ≤ 4398046511104) (hp : p < l.length) (h : Vis l p) : Vis l (p + widL l p) := by
 intro j j1 j3 jp
 obtain ⟨h0, h4, h2, hc, _⟩ := longAt_facts hb p hl (by omega)
 obtain ⟨w1, w4, wl⟩ := widL_pos hb p hl hp
 by_cases c1 : j = widL l p
 ·rw [show p + widL l p - j = p by omega]
  rw [c1]
  unfold widL
  by_cases g : longAt l (p : Int) = 0
  ·rw [if_pos g]; omega
  ·rw [if_neg g]; omega
 ·by_cases c2 : j < widL l p
  ·obtain ⟨i, hi⟩ : ∃ i, widL l p - j = i := ⟨_, rfl⟩
   have hlt : (i : Int) < longAt l (p : Int) := by
    unfold widL at hi c2
    by_cases g : longAt l (p : Int) = 0
    ·rw [if_pos g] at c2; omega
    ·rw [if_neg g] at hi; omega
   have hcc := hc i (by omega) hlt
   have hz := (longAt_facts hb (p + i) hl (by omega)).2.2.2.2 hcc
   rw [show p + widL l p - j = p + i by omega, hz]
   omega
  ·have := h (j - widL l p) (by omega) (by omega) (by omega)
   rw [show p + widL l p - j = p - (j - widL l p) by omega]
   omega
theorem vis_zero (l : List Int) : Vis l 0 := fun j h1 _ h3 => by omega
theorem inside_step {l : List Int} (hb : Bytes l) {p : Nat} (hl : l.length ≤ 4398046511104) (hp : p < l.length) (j : Nat) (h1 : 1 ≤ j) (h2 : j < widL l p) : insideB l (p + j) = true := by
 obtain ⟨h0, h4, _, _, _⟩ := longAt_facts hb p hl (by omega)
 obtain ⟨w1, w4, wl⟩ := widL_pos hb p hl hp
 have hlt : (j : Int) < longAt l (p : Int) := by
  unfold widL at h2
  by_cases g : longAt l (p : Int) = 0
  ·rw [if_pos g] at h2; omega
  ·rw [if_neg g] at h2; omega
 unfold insideB
 rcases (show j = 1 ∨ j = 2 ∨ j = 3 by omega) with rfl | rfl | rfl
 ·rw [show p + 1 - 1 = p by omega]
  simp; omega
 ·rw [show p + 2 - 2 = p by omega]
  simp; omega
 ·rw [show p + 3 - 3 = p by omega]
  simp; omega
end Go.Proofs.YtijbkiajhicooaaDoor.PW

namespace Go.Proofs.YtijbkiajhicooaaDoor.PW
open Go.RowKit Go.Proofs.YtijbkiajhicooaaDoorW.PrintWords Go.Proofs.YtijbkiajhicooaaDoorW.PrintLast Go.Proofs.YtijbkiajhicooaaDoorW.PrintMore
attribute [local go_sem] max2_int min2_int max_two min_two max_three min_three max_four min_four   -- for this text's walks alone
set_option linter.unusedVariables false
set_option linter.unusedSimpArgs false

theorem ofL_wid {l : List Int} (hb : Bytes l) (hl : l.length ≤ 4398046511104) (p : Nat) (hp : p < l.length) : (ofL l p).2.1 = (widL l p : Int) := by
 unfold ofL widL
 by_cases g : longAt l (p : Int) = 0
 ·rw [if_pos g, if_pos g]; rfl
 ·rw [if_neg g, if_neg g]
  have := (longAt_facts hb p hl (by omega)).1
  show longAt l (p : Int) = _
  omega
theorem sf_cons {l : List Int} (hb : Bytes l) (hl : l.length ≤ 4398046511104) (p : Nat) (hp : p < l.length) :
  stepsFrom (strOfNums l) p = ((p : Int), ofL l p) :: stepsFrom (strOfNums l) (p + widL l p) := by
 have h := first_of hb p hp (by omega)
 have hw := ofL_wid hb hl p hp
 rw [stepsFrom_cons _ _ (by rw [strOfNums_size]; exact hp), h.1, show (Utf8.decode (strOfNums l) p).2 = widL l p by omega]
theorem sf_nil {l : List Int} (p : Nat) (hp : l.length ≤ p) : stepsFrom (strOfNums l) p = [] := stepsFrom_nil _ _ (by rw [strOfNums_size]; omega)
/-- A step's kind. -/
abbrev kOf (x : PStep) : Int := kindOf x.2.1 x.2.2.2
end Go.Proofs.YtijbkiajhicooaaDoor.PW

namespace Go.Proofs.YtijbkiajhicooaaDoor.PW
open Go.RowKit Go.Proofs.YtijbkiajhicooaaDoorW.PrintWords Go.Proofs.YtijbkiajhicooaaDoorW.PrintLast Go.Proofs.YtijbkiajhicooaaDoorW.PrintMore
attribute [local go_sem] max2_int min2_int max_two min_two max_three min_three max_four min_four   -- for this text's walks alone
set_option linter.unusedVariables false
set_option linter.unusedSimpArgs false

theorem rd_places {l : List Int} (hb : Bytes l) (hl : l.length ≤ 4398046511104) (pre : List PStep) (p : Nat) (hp : p ≤ l.length) :
  rd ((pre ++ stepsFrom (strOfNums l) p).map (·.1) ++ [(l.length : Int)]) (pre.length : Int) = (p : Int) := by
 unfold rd
 rw [List.getD_eq_getElem?_getD, Int.toNat_natCast]
 by_cases h : p < l.length
 ·rw [sf_cons hb hl p h]
  simp
 ·obtain rfl : p = l.length := by omega
  rw [sf_nil _ (Nat.le_refl _)]
  simp
theorem rd_kinds_at (pre : List PStep) (x : PStep) (rest : List PStep) : rd ((pre ++ x :: rest).map kOf) (pre.length : Int) = kOf x := by
 unfold rd
 rw [List.getD_eq_getElem?_getD, Int.toNat_natCast]
 simp
/-- The steps of a text. -/
abbrev stepsL (l : List Int) : List PStep := allSteps (strOfNums l)
end Go.Proofs.YtijbkiajhicooaaDoor.PW

namespace Go.Proofs.YtijbkiajhicooaaDoor.PW
open Go.RowKit Go.Proofs.YtijbkiajhicooaaDoorW.PrintWords Go.Proofs.YtijbkiajhicooaaDoorW.PrintLast Go.Proofs.YtijbkiajhicooaaDoorW.PrintMore
attribute [local go_sem] max2_int min2_int max_two min_two max_three min_three max_four min_four   -- for this text's walks alone
set_option linter.unusedVariables false
set_option linter.unusedSimpArgs false

theorem longOf_one {x y z w : Int} (h : isOne x) : longOf x y z w = 1 := by
 rcases longOf_cases x y z w with ⟨g, e⟩ | ⟨g, e⟩ | ⟨g, e⟩ | ⟨g, e⟩ | ⟨g, _⟩
 ·exact e
 ·unfold isOne at h; unfold isTwo at g; omega
 ·unfold isOne at h; unfold isThree at g; omega
 ·unfold isOne at h; unfold isFour at g; omega
 ·exact absurd h g
theorem longOf_two {x y z w : Int} (h : isTwo x y) : longOf x y z w = 2 := by
 rcases longOf_cases x y z w with ⟨g, e⟩ | ⟨g, e⟩ | ⟨g, e⟩ | ⟨g, e⟩ | ⟨_, g, _⟩
 ·unfold isTwo at h; unfold isOne at g; omega
 ·exact e
 ·unfold isTwo at h; unfold isThree at g; omega
 ·unfold isTwo at h; unfold isFour at g; omega
 ·exact absurd h g
theorem longOf_three {x y z w : Int} (h : isThree x y z) : longOf x y z w = 3 := by
 rcases longOf_cases x y z w with ⟨g, e⟩ | ⟨g, e⟩ | ⟨g, e⟩ | ⟨g, e⟩ | ⟨_, _, g, _⟩
 ·unfold isThree at h; unfold isOne at g; omega
 ·unfold isThree at h; unfold isTwo at g; omega
 ·exact e
 ·unfold isThree at h; unfold isFour at g; omega
 ·exact absurd h g
theorem longOf_none {x y z w : Int} (h1 : ¬ isOne x) (h2 : ¬ isTwo x y) (h3 : ¬ isThree x y z) (h4 : ¬ isFour x y z w) : longOf x y z w = 0 := by
 rcases longOf_cases x y z w with ⟨g, e⟩ | ⟨g, e⟩ | ⟨g, e⟩ | ⟨g, e⟩ | ⟨_, _, _, _, e⟩
 ·exact absurd g h1
 ·exact absurd g h2
 ·exact absurd g h3
 ·exact absurd g h4
 ·exact e
theorem atI_slice (l : List Int) (S E q : Nat) : atI ((l.take E).drop S) (q : Int) = if S + q < E then atI l (S + q : Nat) else -1 := by
 rw [atI_drop]
 by_cases h : S + q < E
 ·rw [if_pos h]
  unfold atI rd
  simp only [List.length_take, Int.toNat_natCast, List.getD_eq_getElem?_getD, List.getElem?_take]
  rw [if_pos h]
  by_cases g : S + q < l.length
  ·rw [if_neg (by omega), if_neg (by omega)]
  ·rw [if_pos (by omega), if_pos (by omega)]
 ·rw [if_neg h]
  exact atI_out _ _ (by simp; omega)
/-- The piece from S to E. -/
abbrev piece (l : List Int) (S E : Nat) : List Int := (l.take E).drop S
theorem piece_len (l : List Int) (S E : Nat) (h : E ≤ l.length) : (piece l S E).length = E - S := by simp; omega
theorem Bytes.piece {l : List Int} (h : Bytes l) (S E : Nat) : Bytes (piece l S E) := fun x hx => h x (List.mem_of_mem_take (List.mem_of_mem_drop hx))
theorem long_slice {l : List Int} (hb : Bytes l) (hl : l.length ≤ 4398046511104) (S E p : Nat) (hS : S ≤ p) (hp : p < E) (hE : E ≤ l.length) (hw : p + widL l p ≤ E) :
  longAt (piece l S E) ((p - S : Nat) : Int) = longAt l (p : Int) ∧ ofL (piece l S E) (p - S) = ofL l p := by
 have h0 := atI_slice l S E (p - S)
 have h1 := atI_slice l S E (p - S + 1)
 have h2 := atI_slice l S E (p - S + 2)
 have h3 := atI_slice l S E (p - S + 3)
 rw [if_pos (by omega), show S + (p - S) = p by omega] at h0
 rw [show S + (p - S + 1) = p + 1 by omega] at h1
 rw [show S + (p - S + 2) = p + 2 by omega] at h2
 rw [show S + (p - S + 3) = p + 3 by omega] at h3
 have hL := longAt_nat l p (by omega)
 have hL' := longAt_nat (piece l S E) (p - S) (by omega)
 obtain ⟨x, hx⟩ : ∃ x, atI l (p : Int) = x := ⟨_, rfl⟩
 obtain ⟨y, hy⟩ : ∃ x, atI l (p + 1 : Nat) = x := ⟨_, rfl⟩
 obtain ⟨z, hz⟩ : ∃ x, atI l (p + 2 : Nat) = x := ⟨_, rfl⟩
 obtain ⟨v, hv⟩ : ∃ x, atI l (p + 3 : Nat) = x := ⟨_, rfl⟩
 obtain ⟨y', hy'⟩ : ∃ x, atI (piece l S E) (p - S + 1 : Nat) = x := ⟨_, rfl⟩
 obtain ⟨z', hz'⟩ : ∃ x, atI (piece l S E) (p - S + 2 : Nat) = x := ⟨_, rfl⟩
 obtain ⟨v', hv'⟩ : ∃ x, atI (piece l S E) (p - S + 3 : Nat) = x := ⟨_, rfl⟩
 have hx' : atI (piece l S E) ((p - S : Nat) : Int) = x := h0.trans hx
 replace h1 := hy'.symm.trans h1
 replace h2 := hz'.symm.trans h2
 replace h3 := hv'.symm.trans h3
 rw [hy] at h1
 rw [hz] at h2
 rw [hv] at h3
 rw [hx, hy, hz, hv] at hL
 rw [hx', hy', hz', hv'] at hL'
 unfold widL at hw
 rw [hL] at hw
 unfold ofL
 rw [hL, hL', hx, hy, hz, hv, hx', hy', hz', hv']
 clear hL hL' hx hy hz hv hx' hy' hz' hv' h0
 rcases longOf_cases x y z v with ⟨g, e⟩ | ⟨g, e⟩ | ⟨g, e⟩ | ⟨g, e⟩ | ⟨g1, g2, g3, g4, e⟩
 ·have e' : longOf x y' z' v' = 1 := longOf_one g
  rw [e, e']
  refine ⟨rfl, ?_⟩
  unfold runeV
  rw [e, e']
  rfl
 ·rw [e, if_neg (by decide)] at hw
  replace hw : p + 2 ≤ E := hw
  rw [if_pos (by omega)] at h1
  subst h1
  have e' : longOf x y' z' v' = 2 := longOf_two g
  rw [e, e']
  refine ⟨rfl, ?_⟩
  unfold runeV
  rw [e, e']
  rfl
 ·rw [e, if_neg (by decide)] at hw
  replace hw : p + 3 ≤ E := hw
  rw [if_pos (by omega)] at h1 h2
  subst h1 h2
  have e' : longOf x y' z' v' = 3 := longOf_three g
  rw [e, e']
  refine ⟨rfl, ?_⟩
  unfold runeV
  rw [e, e']
  rfl
 ·rw [e, if_neg (by decide)] at hw
  replace hw : p + 4 ≤ E := hw
  rw [if_pos (by omega)] at h1 h2 h3
  subst h1 h2 h3
  exact ⟨rfl, rfl⟩
 ·have i1 : y' = y ∨ y' = -1 := by rw [h1]; split <;> simp
  have i2 : z' = z ∨ z' = -1 := by rw [h2]; split <;> simp
  have i3 : v' = v ∨ v' = -1 := by rw [h3]; split <;> simp
  have e' : longOf x y' z' v' = 0 := by
   unfold isTwo at g2
   unfold isThree at g3
   unfold isFour at g4
   refine longOf_none g1 ?_ ?_ ?_
   ·unfold isTwo; omega
   ·unfold isThree; omega
   ·unfold isFour; omega
  rw [e, e']
  exact ⟨rfl, rfl⟩
/-- A step further on. -/
def shiftS (S : Nat) (x : PStep) : PStep := (x.1 + S, x.2)
theorem wid_slice {l : List Int} (hb : Bytes l) (hl : l.length ≤ 4398046511104) (S E p : Nat) (hS : S ≤ p) (hp : p < E) (hE : E ≤ l.length) (hw : p + widL l p ≤ E) : widL (piece l S E) (p - S) = widL l p := by
 unfold widL
 rw [(long_slice hb hl S E p hS hp hE hw).1]
/-- E is an edge behind p: steps from p on come to it. -/
inductive Reach (l : List Int) (E : Nat) : Nat → Prop
 | here : Reach l E E
 | step {p : Nat} : p < E → E ≤ l.length → Reach l E (p + widL l p) → Reach l E p
theorem Reach.le {l : List Int} {E p : Nat} (h : Reach l E p) : p ≤ E := by
 induction h with
 | here => exact Nat.le_refl _
 | step h1 _ _ _ => omega
theorem steps_slice {l : List Int} (hb : Bytes l) (hl : l.length ≤ 4398046511104) (S E : Nat) (hE : E ≤ l.length) {p : Nat} (h : Reach l E p) : S ≤ p →
  stepsFrom (strOfNums l) p = (stepsFrom (strOfNums (piece l S E)) (p - S)).map (shiftS S) ++ stepsFrom (strOfNums l) E := by
 induction h with
 | here =>
  intro hS
  rw [sf_nil (l := piece l S E) (E - S) (by rw [piece_len l S E hE]; exact Nat.le_refl _)]
  rfl
 | @step p h1 _ h2 ih =>
  intro hS
  have hr := h2.le
  have hw := wid_slice hb hl S E p hS h1 hE hr
  rw [sf_cons hb hl p (by omega), sf_cons (hb.piece S E) (by rw [piece_len l S E hE]; omega) (p - S) (by rw [piece_len l S E hE]; omega), hw]
  have := ih (by omega)
  rw [show p + widL l p - S = p - S + widL l p by omega] at this
  rw [this, List.map_cons, List.cons_append, (long_slice hb hl S E p hS h1 hE hr).2]
  congr 1
  unfold shiftS
  simp only [Prod.mk.injEq, and_true]
  omega
/-- A place where a step begins is come to from every such place ahead of it. -/
theorem reach_vis {l : List Int} (hb : Bytes l) (hl : l.length ≤ 4398046511104) (E : Nat) (hE : E ≤ l.length) (hv : Vis l E) : ∀ (n p : Nat), E - p = n → p ≤ E → Reach l E p := by
 intro n
 induction n using Nat.strongRecOn with
 | _ n ih =>
  intro p hn hp
  by_cases h : p = E
  ·subst h; exact .here
  ·obtain ⟨w1, w4, wl⟩ := widL_pos hb p hl (by omega)
   have : p + widL l p ≤ E := by
    refine Nat.le_of_not_lt fun hlt => ?_
    have h3 := hv (E - p) (by omega) (by omega) (by omega)
    rw [show E - (E - p) = p by omega] at h3
    have := longAt_facts hb p hl (by omega)
    unfold widL at hlt
    by_cases g : longAt l (p : Int) = 0
    ·rw [if_pos g] at hlt; omega
    ·rw [if_neg g] at hlt; omega
   exact .step (by omega) hE (ih (E - (p + widL l p)) (by omega) _ rfl this)

end Go.Proofs.YtijbkiajhicooaaDoor.PW

namespace Go.Proofs.YtijbkiajhicooaaDoor.PW
open Go.RowKit Go.Proofs.YtijbkiajhicooaaDoorW.PrintWords Go.Proofs.YtijbkiajhicooaaDoorW.PrintLast Go.Proofs.YtijbkiajhicooaaDoorW.PrintMore
attribute [local go_sem] max2_int min2_int max_two min_two max_three min_three max_four min_four   -- for this text's walks alone
set_option linter.unusedVariables false
set_option linter.unusedSimpArgs false

/-- Does a line begin at the place? -/
def startsB (l : List Int) (p : Nat) : Bool :=
 if p = 0 then true else if rd l ((p : Int) - 1) = 10 then true else if rd l ((p : Int) - 1) = 13 then (if p = l.length then true else rd l (p : Int) != 10) else false
theorem rd_at {l : List Int} (hb : Bytes l) (p : Nat) (hp : p < l.length) : rd l (p : Int) = atI l (p : Int) := by
 obtain ⟨e, h0, h1⟩ := atI_in hb p hp
 rw [e]
 unfold rd
 simp
/-- A step of a rune below 128 is its byte. -/
theorem rune_byte {l : List Int} (hb : Bytes l) (hl : l.length ≤ 4398046511104) (p : Nat) (hp : p < l.length) (c : Int) (h0 : 0 ≤ c) (h1 : c < 128) :
  ((ofL l p).2.2 = true ∧ (ofL l p).1 = c) ↔ rd l (p : Int) = c := by
 rw [rd_at hb p hp]
 have hlong := longAt_nat l p (by omega)
 unfold ofL
 rw [hlong]
 obtain ⟨x, hx⟩ : ∃ x, atI l (p : Int) = x := ⟨_, rfl⟩
 obtain ⟨y, hy⟩ : ∃ x, atI l (p + 1 : Nat) = x := ⟨_, rfl⟩
 obtain ⟨z, hz⟩ : ∃ x, atI l (p + 2 : Nat) = x := ⟨_, rfl⟩
 obtain ⟨v, hv⟩ : ∃ x, atI l (p + 3 : Nat) = x := ⟨_, rfl⟩
 rw [hx, hy, hz, hv]
 clear hlong hx hy hz hv
 rcases longOf_cases x y z v with ⟨h, e⟩ | ⟨h, e⟩ | ⟨h, e⟩ | ⟨h, e⟩ | ⟨g1, g2, g3, g4, e⟩
 ·have hr : runeV x y z v = x := by simp [runeV, e]
  rw [hr, e, if_neg (by decide)]
  simp
 ·have hr : runeV x y z v = x % 32 * 64 + y % 64 := by simp [runeV, e]
  unfold isTwo at h
  rw [hr, e, if_neg (by decide)]
  exact ⟨fun g => by have := g.2; simp only at this; omega, fun g => by omega⟩
 ·have hr : runeV x y z v = x % 16 * 4096 + y % 64 * 64 + z % 64 := by simp [runeV, e]
  unfold isThree at h
  rw [hr, e, if_neg (by decide)]
  exact ⟨fun g => by have := g.2; simp only at this; omega, fun g => by omega⟩
 ·have hr : runeV x y z v = x % 8 * 262144 + y % 64 * 4096 + z % 64 * 64 + v % 64 := by simp [runeV, e]
  unfold isFour at h
  rw [hr, e, if_neg (by decide)]
  exact ⟨fun g => by have := g.2; simp only at this; omega, fun g => by omega⟩
 ·rw [e, if_pos rfl]
  unfold isOne at g1
  exact ⟨fun g => by simp at g, fun g => by omega⟩
theorem kind_end {l : List Int} (hb : Bytes l) (hl : l.length ≤ 4398046511104) (p : Nat) (hp : p < l.length) : kindOf (ofL l p).1 (ofL l p).2.2 = 2 ↔ (rd l (p : Int) = 10 ∨ rd l (p : Int) = 13) := by
 have h10 := rune_byte hb hl p hp 10 (by decide) (by decide)
 have h13 := rune_byte hb hl p hp 13 (by decide) (by decide)
 rw [← h10, ← h13]
 obtain ⟨⟨r, x, b⟩, hx⟩ : ∃ x, ofL l p = x := ⟨_, rfl⟩
 rw [hx]
 clear h10 h13 hx
 unfold kindOf
 cases b with
 | false => simp
 | true =>
  simp only [if_true, true_and]
  by_cases g1 : r = 32 ∨ r = 9
  ·rw [if_pos g1]
   constructor
   ·intro h; omega
   ·intro h; omega
  ·rw [if_neg g1]
   by_cases g2 : r = 10 ∨ r = 13
   ·rw [if_pos g2]
    exact ⟨fun _ => g2, fun _ => rfl⟩
   ·rw [if_neg g2]
    split
    ·exact ⟨fun h => by omega, fun h => absurd h g2⟩
    ·exact ⟨fun h => by omega, fun h => absurd h g2⟩
theorem low_long {l : List Int} (hb : Bytes l) (hl : l.length ≤ 4398046511104) (p : Nat) (hp : p < l.length) (h : rd l (p : Int) < 128) : longAt l (p : Int) = 1 ∧ widL l p = 1 := by
 rw [rd_at hb p hp] at h
 have h0 := (atI_in hb p hp).2.1
 rw [← (atI_in hb p hp).1] at h0
 have : longAt l (p : Int) = 1 := by
  rw [longAt_nat l p (by omega)]
  exact longOf_one ⟨h0, by omega⟩
 refine ⟨this, ?_⟩
 unfold widL
 rw [this]
 rfl
theorem vis_low {l : List Int} (hb : Bytes l) (hl : l.length ≤ 4398046511104) (p : Nat) (hp : p ≤ l.length) (h : p = l.length ∨ rd l (p : Int) < 128) : Vis l p := by
 intro j j1 j3 jp
 refine Int.not_lt.1 fun hlt => ?_
 obtain ⟨_, _, hle, hc, _⟩ := longAt_facts hb (p - j) hl (by omega)
 have h1 := hle (by omega)
 have h2 := hc j j1 hlt
 rw [show p - j + j = p by omega] at h2
 rcases h with h | h
 ·omega
 ·have hlt2 : p < l.length := by omega
  rw [rd_at hb p hlt2] at h
  omega
/-- Index i of the steps stands at edge p. -/
def AtE (l : List Int) (p i : Nat) : Prop := p ≤ l.length ∧ i ≤ p ∧ ∃ pre, stepsL l = pre ++ stepsFrom (strOfNums l) p ∧ pre.length = i
theorem atE_zero (l : List Int) : AtE l 0 0 := ⟨Nat.zero_le _, Nat.le_refl _, [], rfl, rfl⟩
theorem atE_next {l : List Int} (hb : Bytes l) (hl : l.length ≤ 4398046511104) {p i : Nat} (h : AtE l p i) (hp : p < l.length) : AtE l (p + widL l p) (i + 1) := by
 obtain ⟨h1, h2, pre, h3, h4⟩ := h
 obtain ⟨w1, w4, wl⟩ := widL_pos hb p hl hp
 refine ⟨wl, by omega, pre ++ [((p : Int), ofL l p)], ?_, by simp [h4]⟩
 rw [h3, sf_cons hb hl p hp]
 simp
/-- The reference's places and kinds. -/
abbrev psL (l : List Int) : List Int := (stepsL l).map (·.1) ++ [(l.length : Int)]
abbrev ksL (l : List Int) : List Int := (stepsL l).map kOf
theorem atE_place {l : List Int} (hb : Bytes l) (hl : l.length ≤ 4398046511104) {p i : Nat} (h : AtE l p i) : rd (psL l) (i : Int) = (p : Int) := by
 obtain ⟨h1, h2, pre, h3, h4⟩ := h
 unfold psL
 rw [h3, ← h4]
 exact rd_places hb hl pre p h1
theorem atE_end {l : List Int} {i : Nat} (h : AtE l l.length i) : (ksL l).length = i := by
 obtain ⟨h1, h2, pre, h3, h4⟩ := h
 rw [sf_nil _ (Nat.le_refl _), List.append_nil] at h3
 simp [h3, h4]
theorem atE_kind {l : List Int} (hb : Bytes l) (hl : l.length ≤ 4398046511104) {p i : Nat} (h : AtE l p i) (hp : p < l.length) : rd (ksL l) (i : Int) = kindOf (ofL l p).1 (ofL l p).2.2 := by
 obtain ⟨h1, h2, pre, h3, h4⟩ := h
 unfold ksL
 rw [h3, ← h4, sf_cons hb hl p hp]
 exact rd_kinds_at pre ((p : Int), ofL l p) _
section
variable {l : List Int} (hb : Bytes l) (hl : l.length ≤ 4398046511103) (place w : Int)
include hb hl in
include hb hl in
include hb hl in
include hb hl in
include hl in
end

end Go.Proofs.YtijbkiajhicooaaDoor.PW

namespace Go.Proofs.YtijbkiajhicooaaDoor.PW
open Go.RowKit Go.Proofs.YtijbkiajhicooaaDoorW.PrintWords Go.Proofs.YtijbkiajhicooaaDoorW.PrintLast Go.Proofs.YtijbkiajhicooaaDoorW.PrintMore
attribute [local go_sem] max2_int min2_int max_two min_two max_three min_three max_four min_four   -- for this text's walks alone
set_option linter.unusedVariables false
set_option linter.unusedSimpArgs false

theorem strOfNums_whole (l : List Int) : (strOfNums l).extract 0 (strOfNums l).size = strOfNums l := by
 have := strOfNums_drop l 0
 rwa [List.drop_zero] at this
theorem step_at_ev {l : List Int} (hb : Bytes l) (hl : l.length ≤ 4398046511104) (q : Nat) (hq : q < l.length) : step_at.f l (q : Int) = some (ofL l q) := by
 obtain ⟨w1, w4, wl⟩ := widL_pos hb q hl hq
 obtain ⟨E, hE⟩ : ∃ E : Nat, E = min (q + 4) l.length := ⟨_, rfl⟩
 have hm : mn (wrap64 ((q : Int) + 4)) (l.length : Int) = (E : Int) := by
  rw [wrap64_small (by omega) (by omega)]
  unfold mn
  split <;> omega
 have hEl : E ≤ l.length := by omega
 have hqE : q < E := by omega
 have hwE : q + widL l q ≤ E := by omega
 have hs := (long_slice hb hl q E q (Nat.le_refl _) hqE hEl hwE).2
 rw [Nat.sub_self] at hs
 have hlen := piece_len l q E hEl
 have hf := (first_of (hb.piece q E) 0 (by omega) (by omega)).1
 rw [strOfNums_whole] at hf
 unfold step_at.f
 rw [hm, if_pos (by omega), if_pos (by omega), if_pos (by omega), Int.toNat_natCast, Int.toNat_natCast]
 unfold step_first.f
 rw [Option.bind_some]
 show some ((firstOf (strOfNums (piece l q E)))) = _
 rw [hf, hs]
/-- How far ahead of a place the step begins that goes over it. -/
def insideK (l : List Int) (p : Nat) : Nat :=
 if 1 ≤ p ∧ 1 < widL l (p - 1) then 1 else if 2 ≤ p ∧ 2 < widL l (p - 2) then 2 else if 3 ≤ p ∧ 3 < widL l (p - 3) then 3 else 0
def floorL (l : List Int) (p : Nat) : Nat := p - insideK l p
theorem inside_round {l : List Int} (hb : Bytes l) (hl : l.length ≤ 4398046511104) (p j : Nat) (hp : p ≤ l.length) (h1 : 1 ≤ j) (h3 : j ≤ 3) (k : Nat) :
  step_inside.l0 (k + 2) l (p : Int) (j : Int) = if j ≤ p then (if j < widL l (p - j) then some (j : Int) else step_inside.l0 k l (p : Int) ((j + 1 : Nat) : Int)) else some 0 := by
 rw [step_inside.l0, if_pos (by omega), step_inside.j1]
 by_cases h : j ≤ p
 ·have hw : wrap64 ((p : Int) - (j : Int)) = ((p - j : Nat) : Int) := by rw [wrap64_small (by omega) (by omega)]; omega
  have hw2 : wrap64 ((j : Int) + 1) = ((j + 1 : Nat) : Int) := by rw [wrap64_small (by omega) (by omega)]; omega
  have ho := ofL_wid hb hl (p - j) (by omega)
  have hg : ((ofL l (p - j)).2.1 > (j : Int)) ↔ j < widL l (p - j) := by rw [ho]; omega
  rw [if_pos (decide_eq_true (by omega)), if_pos h, hw, step_at_ev hb hl (p - j) (by omega), Option.bind_some, hw2]
  by_cases g : j < widL l (p - j)
  ·rw [if_pos g, if_pos (hg.2 g)]
  ·rw [if_neg g, if_neg (fun e => g (hg.1 e))]
 ·rw [if_neg (by rw [decide_eq_false (by omega)]; decide), if_neg h]
theorem inside_last (l : List Int) (p : Int) (k : Nat) : step_inside.l0 (k + 2) l p 4 = some 0 := by
 rw [step_inside.l0, if_neg (by decide), step_inside.j1, if_neg (by decide)]
theorem insideK_ev {l : List Int} (hb : Bytes l) (hl : l.length ≤ 4398046511104) (p : Nat) (hp : p ≤ l.length) (k : Nat) (hk : 8 ≤ k) : step_inside.f k l (p : Int) = some (insideK l p : Int) := by
 obtain ⟨m, rfl⟩ : ∃ m, k = m + 8 := ⟨k - 8, by omega⟩
 unfold step_inside.f insideK
 have r1 := inside_round hb hl p 1 hp (by omega) (by omega) (m + 6)
 have r2 := inside_round hb hl p 2 hp (by omega) (by omega) (m + 4)
 have r3 := inside_round hb hl p 3 hp (by omega) (by omega) (m + 2)
 have r4 := inside_last l (p : Int) m
 refine r1.trans ?_
 by_cases h1 : 1 ≤ p
 ·by_cases g1 : 1 < widL l (p - 1)
  ·rw [if_pos h1, if_pos g1, if_pos ⟨h1, g1⟩]
  ·rw [if_pos h1, if_neg g1, if_neg (fun e => g1 e.2)]
   refine r2.trans ?_
   by_cases h2 : 2 ≤ p
   ·by_cases g2 : 2 < widL l (p - 2)
    ·rw [if_pos h2, if_pos g2, if_pos ⟨h2, g2⟩]
    ·rw [if_pos h2, if_neg g2, if_neg (fun e => g2 e.2)]
     refine r3.trans ?_
     by_cases h3 : 3 ≤ p
     ·by_cases g3 : 3 < widL l (p - 3)
      ·rw [if_pos h3, if_pos g3, if_pos ⟨h3, g3⟩]
      ·rw [if_pos h3, if_neg g3, if_neg (fun e => g3 e.2)]
       exact r4
     ·rw [if_neg h3, if_neg (fun e => h3 e.1)]
      rfl
   ·rw [if_neg h2, if_neg (fun e => h2 e.1), if_neg (fun e => h2 (by omega))]
    rfl
 ·rw [if_neg h1, if_neg (fun e => h1 e.1), if_neg (fun e => h1 (by omega)), if_neg (fun e => h1 (by omega))]
  rfl
theorem insideK_le (l : List Int) (p : Nat) : insideK l p ≤ p := by
 unfold insideK
 split
 ·omega
 ·split
  ·omega
  ·split <;> omega
theorem floor_ev {l : List Int} (hb : Bytes l) (hl : l.length ≤ 4398046511104) (p : Nat) (hp : p ≤ l.length) (k : Nat) (hk : 8 ≤ k) : step_Floor.f k l (p : Int) = some ((floorL l p : Int), 0) := by
 have hle := insideK_le l p
 unfold step_Floor.f
 rw [if_neg (by omega), if_neg (by omega), insideK_ev hb hl p hp k hk, Option.bind_some, wrap64_small (by omega) (by omega)]
 unfold floorL
 rw [show ((p - insideK l p : Nat) : Int) = (p : Int) - (insideK l p : Int) by omega]
theorem long_le_wid (l : List Int) (q : Nat) : longAt l (q : Int) ≤ (widL l q : Int) := by
 unfold widL
 split
 ·omega
 ·omega
theorem long_of_wid {l : List Int} (q : Nat) (h : 1 < widL l q) : longAt l (q : Int) = (widL l q : Int) := by
 unfold widL at h ⊢
 by_cases g : longAt l (q : Int) = 0
 ·rw [if_pos g] at h; omega
 ·rw [if_neg g] at h ⊢; omega
theorem floor_facts {l : List Int} (hb : Bytes l) (hl : l.length ≤ 4398046511104) (p : Nat) (hp : p ≤ l.length) :
  Vis l (floorL l p) ∧ floorL l p ≤ p ∧ (floorL l p = p ∨ (floorL l p < p ∧ p < floorL l p + widL l (floorL l p))) := by
 have hv : ∀ k : Nat, 1 ≤ k → k ≤ p → k < widL l (p - k) → Vis l (p - k) := fun k h1 hk hw j j1 j3 jp => by
  refine Int.not_lt.1 fun hlt => ?_
  have hlong := long_of_wid (l := l) (p - k) (by omega)
  obtain ⟨_, _, _, hc, _⟩ := longAt_facts hb (p - k - j) hl (by omega)
  have := hc j j1 hlt
  rw [show p - k - j + j = p - k by omega] at this
  have hz := (longAt_facts hb (p - k) hl (by omega)).2.2.2.2 this
  omega
 unfold floorL insideK
 by_cases c1 : 1 ≤ p ∧ 1 < widL l (p - 1)
 ·rw [if_pos c1]
  exact ⟨hv 1 (by omega) c1.1 c1.2, by omega, .inr ⟨by omega, by omega⟩⟩
 rw [if_neg c1]
 by_cases c2 : 2 ≤ p ∧ 2 < widL l (p - 2)
 ·rw [if_pos c2]
  exact ⟨hv 2 (by omega) c2.1 c2.2, by omega, .inr ⟨by omega, by omega⟩⟩
 rw [if_neg c2]
 by_cases c3 : 3 ≤ p ∧ 3 < widL l (p - 3)
 ·rw [if_pos c3]
  exact ⟨hv 3 (by omega) c3.1 c3.2, by omega, .inr ⟨by omega, by omega⟩⟩
 rw [if_neg c3]
 refine ⟨fun j j1 j3 jp => ?_, by omega, .inl rfl⟩
 rw [Nat.sub_zero] at jp ⊢
 have := long_le_wid l (p - j)
 rcases (show j = 1 ∨ j = 2 ∨ j = 3 by omega) with rfl | rfl | rfl
 ·have : widL l (p - 1) ≤ 1 := Nat.le_of_not_lt fun h => c1 ⟨jp, h⟩
  omega
 ·have : widL l (p - 2) ≤ 2 := Nat.le_of_not_lt fun h => c2 ⟨jp, h⟩
  omega
 ·have : widL l (p - 3) ≤ 3 := Nat.le_of_not_lt fun h => c3 ⟨jp, h⟩
  omega
/-- An edge at or ahead of a place is at or ahead of the place's floor. -/
theorem edge_floor {l : List Int} (hb : Bytes l) (hl : l.length ≤ 4398046511104) (p : Nat) (hp : p ≤ l.length) (e : Nat) (he : Vis l e) (hle : e ≤ p) : e ≤ floorL l p := by
 obtain ⟨_, h1, h2⟩ := floor_facts hb hl p hp
 refine Nat.le_of_not_lt fun hlt => ?_
 rcases h2 with h2 | h2
 ·omega
 ·have := inside_step hb hl (p := floorL l p) (by omega) (e - floorL l p) (by omega) (by omega)
  rw [show floorL l p + (e - floorL l p) = e by omega, inside_vis he] at this
  cases this
theorem rd_line (ls : List S127) (i : Nat) (h : i < ls.length) : rd_T127 ls (i : Int) = ls[i] := by
 unfold rd_T127
 rw [List.getD_eq_getElem?_getD, Int.toNat_natCast, List.getElem?_eq_getElem h]
 rfl
end Go.Proofs.YtijbkiajhicooaaDoor.PW

namespace Go.Proofs.YtijbkiajhicooaaDoor.PW
open Go.RowKit Go.Proofs.YtijbkiajhicooaaDoorW.PrintWords Go.Proofs.YtijbkiajhicooaaDoorW.PrintLast Go.Proofs.YtijbkiajhicooaaDoorW.PrintMore
attribute [local go_sem] max2_int min2_int max_two min_two max_three min_three max_four min_four   -- for this text's walks alone
set_option linter.unusedVariables false
set_option linter.unusedSimpArgs false

/-- A line's content ends at C with a line end, and the next line begins at n. -/
def LEnd (l : List Int) (C n : Nat) : Prop :=
 C < l.length ∧ n ≤ l.length ∧ (rd l (C : Int) = 10 ∨ rd l (C : Int) = 13) ∧ startsB l n = true ∧ (n = C + 1 ∨ (n = C + 2 ∧ C + 1 < l.length ∧ rd l (C : Int) = 13 ∧ rd l ((C + 1 : Nat) : Int) = 10))
theorem lend_of {l : List Int} {r : S127} (h : EndsAt l r) (h0 : 0 ≤ r.f1) : ∃ n : Nat, r.f3 = (n : Int) ∧ LEnd l r.f1.toNat n := by
 obtain ⟨C, hC⟩ : ∃ C : Nat, r.f1 = (C : Int) := ⟨r.f1.toNat, by omega⟩
 unfold EndsAt at h
 rw [hC] at h ⊢
 rw [Int.toNat_natCast]
 rcases h with ⟨h1, h2, h3, h4⟩ | ⟨h1, h2, h3, h4, h5⟩ | ⟨h1, h2, h3, h4, h5⟩
 ·refine ⟨C + 1, by omega, by omega, by omega, .inl h2, ?_, .inl rfl⟩
  unfold startsB
  rw [if_neg (by omega), show ((C + 1 : Nat) : Int) - 1 = (C : Int) by omega, if_pos h2]
 ·refine ⟨C + 2, by omega, by omega, by omega, .inr h2, ?_, .inr ⟨rfl, by omega, h2, h3⟩⟩
  unfold startsB
  rw [if_neg (by omega), show ((C + 2 : Nat) : Int) - 1 = (C : Int) + 1 by omega, if_pos h3]
 ·refine ⟨C + 1, by omega, by omega, by omega, .inr h2, ?_, .inl rfl⟩
  unfold startsB
  rw [if_neg (by omega), show ((C + 1 : Nat) : Int) - 1 = (C : Int) by omega, if_neg (by rw [h2]; decide), if_pos h2]
  by_cases e : C + 1 = l.length
  ·rw [if_pos e]
  ·rw [if_neg e]
   have : rd l ((C + 1 : Nat) : Int) ≠ 10 := fun g => h3 ⟨by omega, g⟩
   simpa using this
theorem end_low {l : List Int} {C : Nat} (h : rd l (C : Int) = 10 ∨ rd l (C : Int) = 13) : rd l (C : Int) < 128 := by
 rcases h with h | h <;> rw [h] <;> decide
theorem starts_mid {l : List Int} {C : Nat} (h1 : C + 1 < l.length) (h2 : rd l (C : Int) = 13) (h3 : rd l ((C + 1 : Nat) : Int) = 10) : startsB l (C + 1) = false := by
 unfold startsB
 rw [if_neg (by omega), show ((C + 1 : Nat) : Int) - 1 = (C : Int) by omega, if_neg (by rw [h2]; decide), if_pos h2, if_neg (by omega), h3]
 rfl
section
variable {l : List Int} (hb : Bytes l) (hl : l.length ≤ 4398046511103) (pl : Nat) (hpl : pl ≤ l.length) (w : Int) (hw0 : 1 ≤ w)
include hb hl hw0 in
include hb hl hw0 hpl in
include hb hl hw0 hpl in
include hb hl hw0 hpl in
include hb hl hw0 hpl in
end

end Go.Proofs.YtijbkiajhicooaaDoor.PW

namespace Go.Proofs.YtijbkiajhicooaaDoor.PW
open Go.RowKit Go.Proofs.YtijbkiajhicooaaDoorW.PrintWords Go.Proofs.YtijbkiajhicooaaDoorW.PrintLast Go.Proofs.YtijbkiajhicooaaDoorW.PrintMore
attribute [local go_sem] max2_int min2_int max_two min_two max_three min_three max_four min_four   -- for this text's walks alone
set_option linter.unusedVariables false
set_option linter.unusedSimpArgs false

theorem own_some (l : List Int) (hl : l.length ≤ 4398046511103) : galleylaw22_own.f l = some l := by
 unfold galleylaw22_own.f
 rw [Option.bind_some, if_pos (by simp; omega), List.nil_append]
end Go.Proofs.YtijbkiajhicooaaDoor.PW
namespace Go.Proofs.YtijbkiajhicooaaDoor.Pure
open Go.Proofs.YtijbkiajhicooaaDoor.PW Go.RowKit
end Go.Proofs.YtijbkiajhicooaaDoor.Pure
namespace Go.Proofs.YtijbkiajhicooaaDoor.PW

end Go.Proofs.YtijbkiajhicooaaDoor.PW

namespace Go.Proofs.YtijbkiajhicooaaDoor.PW
open Go.RowKit Go.Proofs.YtijbkiajhicooaaDoorW.PrintWords Go.Proofs.YtijbkiajhicooaaDoorW.PrintLast Go.Proofs.YtijbkiajhicooaaDoorW.PrintMore
attribute [local go_sem] max2_int min2_int max_two min_two max_three min_three max_four min_four   -- for this text's walks alone
set_option linter.unusedVariables false
set_option linter.unusedSimpArgs false

/-- A line's own edges and blanks (es, bl) are those of the whole text (ps, ks) from index b on; the line begins at place S. -/
structure Corr (ps ks es : List Int) (bl : List Bool) (b m : Nat) (S : Int) : Prop where
 hm : es.length = m + 1
 hk : ∀ t : Int, 1 ≤ t → t ≤ (m : Int) → (rd ks ((b : Int) + t - 1) = 1 ↔ rdOf false bl t = true)
 hp : ∀ t : Int, 1 ≤ t → t ≤ (m : Int) → rd ps ((b : Int) + t) = wrap64 (S + rd es t)
 lp : b + m < ps.length
 lk : b + m ≤ ks.length
 sm : b + m ≤ 4398046511104
theorem wrapGo_length (es : List Int) (bl : List Bool) (S w : Int) (hw1 : 1 ≤ w) : ∀ (k : Nat) (s : Int) (out : List Int), 0 ≤ s → s ≤ (es.length : Int) - 1 → ((wrapGo es bl S w k s out).length : Int) ≤ (out.length : Int) + ((es.length : Int) - 1 - s) := by
 intro k
 induction k with
 | zero => intro s out h0 h1; simp only [wrapGo]; omega
 | succ k ih =>
  intro s out h0 h1
  simp only [wrapGo]
  by_cases h : w < (es.length : Int) - 1 - s
  ·rw [if_pos h]
   have hc := cutOf_le bl w s hw1
   have := ih (cutOf bl w s) (out ++ [wrap64 (S + rd es (cutOf bl w s))]) (by omega) (by omega)
   rw [List.length_append, List.length_singleton] at this
   omega
  ·rw [if_neg h]; omega
end Go.Proofs.YtijbkiajhicooaaDoor.PW

namespace Go.Proofs.YtijbkiajhicooaaDoor.PW
open Go.RowKit Go.Proofs.YtijbkiajhicooaaDoorW.PrintWords Go.Proofs.YtijbkiajhicooaaDoorW.PrintLast Go.Proofs.YtijbkiajhicooaaDoorW.PrintMore
attribute [local go_sem] max2_int min2_int max_two min_two max_three min_three max_four min_four   -- for this text's walks alone
set_option linter.unusedVariables false
set_option linter.unusedSimpArgs false

theorem rd_cons_map (g : PStep → Int) (pre : List PStep) (x : PStep) (rest : List PStep) : rd (0 :: (pre ++ x :: rest).map g) ((pre.length + 1 : Nat) : Int) = g x := by
 unfold rd
 rw [List.getD_eq_getElem?_getD, Int.toNat_natCast]
 simp
theorem rdOf_cons_map (g : PStep → Bool) (pre : List PStep) (x : PStep) (rest : List PStep) : rdOf false (false :: (pre ++ x :: rest).map g) ((pre.length + 1 : Nat) : Int) = g x := by
 unfold rdOf
 rw [List.getD_eq_getElem?_getD, Int.toNat_natCast]
 simp
theorem atE_le {l : List Int} {p i : Nat} (h : AtE l p i) : i ≤ (stepsL l).length := by
 obtain ⟨h1, h2, pre, h3, h4⟩ := h
 rw [h3, List.length_append]
 omega
theorem atE_last {l : List Int} (hb : Bytes l) (hl : l.length ≤ 4398046511104) {p : Nat} (h : AtE l p (stepsL l).length) : p = l.length := by
 obtain ⟨h1, h2, pre, h3, h4⟩ := h
 by_cases g : p < l.length
 ·have := congrArg List.length h3
  rw [sf_cons hb hl p g, List.length_append, List.length_cons] at this
  omega
 ·omega
theorem atE_lt {l : List Int} {p i : Nat} (h : AtE l p i) (hi : i < (stepsL l).length) : p < l.length := by
 refine Nat.lt_of_not_le fun hge => ?_
 obtain rfl : p = l.length := by have := h.1; omega
 have := atE_end h
 rw [List.length_map] at this
 omega
theorem atE_get {l : List Int} (hb : Bytes l) (hl : l.length ≤ 4398046511104) {p i : Nat} (h : AtE l p i) (hp : p < l.length) : ∃ pre rest, stepsL l = pre ++ ((p : Int), ofL l p) :: rest ∧ pre.length = i := by
 obtain ⟨h1, h2, pre, h3, h4⟩ := h
 exact ⟨pre, _, by rw [h3, sf_cons hb hl p hp], h4⟩
section
variable {l : List Int} (hb : Bytes l) (hl : l.length ≤ 4398046511103) {S C b : Nat} (hSC : S ≤ C) (hC : C ≤ l.length) (hv : Vis l C) (hplain : PlainTo l (S : Int) (C : Int)) (hA : AtE l S b)
include hb hl hSC hC hv hplain hA in
theorem corr_at : ∀ (t : Nat), t ≤ (stepsL (piece l S C)).length → ∃ q : Nat, AtE (piece l S C) q t ∧ AtE l (S + q) (b + t) ∧ (t < (stepsL (piece l S C)).length → ¬ rd (ksL l) ((b + t : Nat) : Int) = 2) ∧
  (1 ≤ t → rd (edgesOf (stepsL (piece l S C))) (t : Int) = (q : Int) ∧ (rd (ksL l) ((b + t : Nat) - 1 : Int) = 1 ↔ rdOf false (blanksOf (stepsL (piece l S C))) (t : Int) = true)) := by
 have hl4 : l.length ≤ 4398046511104 := by omega
 have hlen := piece_len l S C hC
 have hbY := hb.piece S C
 have hlY : (piece l S C).length ≤ 4398046511104 := by omega
 have hne2 : ∀ (q t : Nat), AtE (piece l S C) q t → AtE l (S + q) (b + t) → t < (stepsL (piece l S C)).length → ¬ rd (ksL l) ((b + t : Nat) : Int) = 2 := by
  intro q t h1 h2 h3
  have hq := atE_lt h1 h3
  have hlt : S + q < l.length := by omega
  rw [atE_kind hb hl4 h2 hlt, kind_end hb hl4 (S + q) hlt]
  have := hplain ((S + q : Nat) : Int) (by omega) (by omega)
  exact fun e => e.elim this.1 this.2
 intro t
 induction t with
 | zero => intro _; exact ⟨0, atE_zero _, hA, hne2 0 0 (atE_zero _) hA, fun h => absurd h (by decide)⟩
 | succ t ih =>
  intro ht
  obtain ⟨q, h1, h2, h3, h4⟩ := ih (by omega)
  clear h3 h4 ih
  have hq := atE_lt h1 (by omega)
  have hlt : S + q < C := by omega
  have hltl : S + q < l.length := by omega
  have hr : S + q + widL l (S + q) ≤ C := by
   have := reach_vis hb hl4 C hC hv _ (S + q) rfl (by omega)
   cases this with
   | here => omega
   | step _ _ h => exact h.le
  have hws := wid_slice hb hl4 S C (S + q) (by omega) hlt hC hr
  have hos := (long_slice hb hl4 S C (S + q) (by omega) hlt hC hr).2
  have hsub : S + q - S = q := by omega
  rw [hsub] at hws hos
  have g1 := atE_next hbY hlY h1 hq
  have g2 := atE_next hb hl4 h2 hltl
  rw [hws] at g1
  have g2' : AtE l (S + (q + widL l (S + q))) (b + (t + 1)) := by
   rw [← Nat.add_assoc, ← Nat.add_assoc]; exact g2
  refine ⟨q + widL l (S + q), g1, g2', hne2 _ _ g1 g2', fun _ => ?_⟩
  obtain ⟨pre, rest, hst, hpre⟩ := atE_get hbY hlY h1 hq
  have hw := ofL_wid hbY hlY q hq
  have hwr : wrap64 ((q : Int) + (widL l (S + q) : Int)) = ((q + widL l (S + q) : Nat) : Int) := by rw [wrap64_small (by omega) (by omega)]; omega
  have hcast : ((b + (t + 1) : Nat) : Int) - 1 = ((b + t : Nat) : Int) := by omega
  rw [hws] at hw
  have hkd := atE_kind hb hl4 h2 hltl
  have e1 : rd (edgesOf (stepsL (piece l S C))) ((t + 1 : Nat) : Int) = ((q + widL l (S + q) : Nat) : Int) := by
   unfold edgesOf
   rw [hst, ← hpre, rd_cons_map (fun x => wrap64 (x.1 + x.2.2.1)) pre _ rest]
   show wrap64 ((q : Int) + (ofL (piece l S C) q).2.1) = _
   rw [hw]
   exact hwr
  have e2 : rdOf false (blanksOf (stepsL (piece l S C))) ((t + 1 : Nat) : Int) = (kindOf (ofL l (S + q)).1 (ofL l (S + q)).2.2 == 1) := by
   unfold blanksOf
   rw [hst, ← hpre, rdOf_cons_map (fun x => kindOf x.2.1 x.2.2.2 == 1) pre _ rest]
   show (kindOf (ofL (piece l S C) q).1 (ofL (piece l S C) q).2.2 == 1) = _
   rw [hos]
  refine ⟨e1, ?_⟩
  rw [hcast, hkd, e2]
  simp
include hb hl hSC hC hv hplain hA in
theorem corr_end : AtE l C (b + (stepsL (piece l S C)).length) := by
 obtain ⟨q, h1, h2, h3, h4⟩ := corr_at hb hl hSC hC hv hplain hA _ (Nat.le_refl _)
 clear h3 h4
 have hlen := piece_len l S C hC
 have := atE_last (hb.piece S C) (by omega) h1
 rw [show S + q = C by omega] at h2
 exact h2
include hb hl hSC hC hv hplain hA in
theorem corr_line : Corr (psL l) (ksL l) (edgesOf (stepsL (piece l S C))) (blanksOf (stepsL (piece l S C))) b (stepsL (piece l S C)).length (S : Int) := by
 have hl4 : l.length ≤ 4398046511104 := by omega
 have hE := corr_end hb hl hSC hC hv hplain hA
 have hle := atE_le hE
 have hsl := stepsFrom_length (strOfNums l) 0
 rw [strOfNums_size] at hsl
 have hsl2 : (stepsL l).length ≤ l.length := by unfold stepsL allSteps; omega
 refine ⟨by simp [edgesOf], fun t h1 h2 => ?_, fun t h1 h2 => ?_, by simp; omega, by simp; omega, by omega⟩
 ·obtain ⟨u, rfl⟩ : ∃ u : Nat, t = (u : Int) := ⟨t.toNat, by omega⟩
  have hu1 : 1 ≤ u := by omega
  obtain ⟨q, _, _, _, h⟩ := corr_at hb hl hSC hC hv hplain hA u (by omega)
  have h := (h hu1).2
  rw [show ((b + u : Nat) : Int) = (b : Int) + (u : Int) from Int.natCast_add b u] at h
  exact h
 ·obtain ⟨u, rfl⟩ : ∃ u : Nat, t = (u : Int) := ⟨t.toNat, by omega⟩
  have hu1 : 1 ≤ u := by omega
  obtain ⟨q, hq, hq2, h3, h⟩ := corr_at hb hl hSC hC hv hplain hA u (by omega)
  have h := (h hu1).1
  clear h3
  have hwr : wrap64 ((S : Int) + (q : Int)) = ((S + q : Nat) : Int) := by rw [wrap64_small (by have := hq2.1; omega) (by have := hq2.1; omega)]; omega
  have hp := atE_place hb hl4 hq2
  rw [show ((b + u : Nat) : Int) = (b : Int) + (u : Int) from Int.natCast_add b u] at hp
  rw [hp, h, hwr]
include hb hl hSC hC hv hplain hA in
include hb hl hSC hC hv hplain hA in
end
theorem wrapsOf_length {l : List Int} (S C : Nat) (hC : C ≤ l.length) (hSC : S ≤ C) (st w : Int) (hw1 : 1 ≤ w) : (wrapsOf (piece l S C) st w).length ≤ (stepsL (piece l S C)).length ∧ (stepsL (piece l S C)).length ≤ C - S := by
 have hsl := stepsFrom_length (strOfNums (piece l S C)) 0
 rw [strOfNums_size, piece_len l S C hC] at hsl
 have := wrapGo_length (edgesOf (stepsL (piece l S C))) (blanksOf (stepsL (piece l S C))) st w hw1 (edgesOf (stepsL (piece l S C))).length 0 [] (Int.le_refl _) (by simp [edgesOf])
 have he : (edgesOf (stepsL (piece l S C))).length = (stepsL (piece l S C)).length + 1 := by simp [edgesOf]
 have hx : (stepsL (piece l S C)).length = (stepsFrom (strOfNums (piece l S C)) 0).length := rfl
 unfold wrapsOf
 simp only [List.length_nil] at this
 refine ⟨?_, by omega⟩
 show (wrapGo (edgesOf (stepsL (piece l S C))) (blanksOf (stepsL (piece l S C))) st w (edgesOf (stepsL (piece l S C))).length 0 []).length ≤ _
 omega

end Go.Proofs.YtijbkiajhicooaaDoor.PW

namespace Go.Proofs.YtijbkiajhicooaaDoor.PW
open Go.RowKit Go.Proofs.YtijbkiajhicooaaDoorW.PrintWords Go.Proofs.YtijbkiajhicooaaDoorW.PrintLast Go.Proofs.YtijbkiajhicooaaDoorW.PrintMore
attribute [local go_sem] max2_int min2_int max_two min_two max_three min_three max_four min_four   -- for this text's walks alone
set_option linter.unusedVariables false
set_option linter.unusedSimpArgs false

theorem atE_uniq {l : List Int} (hb : Bytes l) (hl : l.length ≤ 4398046511104) {p q i : Nat} (h1 : AtE l p i) (h2 : AtE l q i) : p = q := by
 have e1 := atE_place hb hl h1
 have e2 := atE_place hb hl h2
 exact Int.ofNat.inj (e1.symm.trans e2)
theorem atE_ex {l : List Int} (hb : Bytes l) (hl : l.length ≤ 4398046511104) : ∀ (i : Nat), i ≤ (stepsL l).length → ∃ p, AtE l p i ∧ Vis l p := by
 intro i
 induction i with
 | zero => intro _; exact ⟨0, atE_zero l, vis_zero l⟩
 | succ i ih =>
  intro h
  obtain ⟨p, h1, h2⟩ := ih (by omega)
  have hp := atE_lt h1 (by omega)
  exact ⟨_, atE_next hb hl h1 hp, vis_next hb hl hp h2⟩
theorem atE_vis {l : List Int} (hb : Bytes l) (hl : l.length ≤ 4398046511104) {p i : Nat} (h : AtE l p i) : Vis l p := by
 obtain ⟨q, h1, h2⟩ := atE_ex hb hl i (atE_le h)
 rw [atE_uniq hb hl h h1]
 exact h2
theorem atE_mono {l : List Int} (hb : Bytes l) (hl : l.length ≤ 4398046511104) : ∀ (d : Nat) {p q i : Nat}, AtE l p i → AtE l q (i + d) → p + d ≤ q := by
 intro d
 induction d with
 | zero => intro p q i h1 h2; rw [Nat.add_zero] at h2; exact Nat.le_of_eq (atE_uniq hb hl h1 h2)
 | succ d ih =>
  intro p q i h1 h2
  have hle := atE_le h2
  have hp := atE_lt h1 (by omega)
  have h3 := atE_next hb hl h1 hp
  rw [show i + (d + 1) = i + 1 + d by omega] at h2
  have := ih h3 h2
  have := (widL_pos hb p hl hp).1
  omega
theorem atE_length {l : List Int} {p i : Nat} (h : AtE l p i) : (stepsL l).length = i + (stepsFrom (strOfNums l) p).length := by
 obtain ⟨h1, h2, pre, h3, h4⟩ := h
 rw [h3, List.length_append, h4]
theorem steps_count {l : List Int} (hb : Bytes l) (hl : l.length ≤ 4398046511104) {p q i d : Nat} (h1 : AtE l p i) (h2 : AtE l q (i + d)) : (stepsL (piece l p q)).length = d := by
 have hpq := atE_mono hb hl d h1 h2
 have hr := reach_vis hb hl q h2.1 (atE_vis hb hl h2) _ p rfl (by omega)
 have hs := congrArg List.length (steps_slice hb hl p q h2.1 hr (Nat.le_refl _))
 rw [Nat.sub_self, List.length_append, List.length_map] at hs
 have e1 := atE_length h1
 have e2 := atE_length h2
 unfold stepsL allSteps
 unfold stepsL allSteps at e1 e2
 omega
theorem runes_steps (s : ByteArray) : ∀ (k p : Nat), (runesAt s k p).length = (stepsAt s k p).length := by
 intro k
 induction k with
 | zero => intro p; rfl
 | succ k ih =>
  intro p
  unfold runesAt stepsAt
  split
  ·rw [List.length_cons, List.length_cons, ih]
  ·rfl
theorem steps_f (l : List Int) (hl : l.length ≤ 4398046511103) : galleylaw22_steps.f l = some ((stepsL l).length : Int) := by
 have hr : step_Runes.f l = some (runesL l) := by unfold step_Runes.f; rw [if_pos (by omega)]
 unfold galleylaw22_steps.f
 rw [own_some l hl, Option.bind_some, hr, Option.bind_some]
 unfold runesL
 rw [runes_steps]
 unfold stepsL allSteps stepsFrom
 rw [Nat.sub_zero]
theorem edge_true {l : List Int} (hb : Bytes l) (hl : l.length ≤ 4398046511104) (p : Nat) (hp : p ≤ l.length) (hv : Vis l p) : Ev (fun k => step_Edge.f k l (p : Int)) true := by
 have hf : floorL l p = p := by
  have h1 := edge_floor hb hl p hp p hv (Nat.le_refl _)
  have h2 := (floor_facts hb hl p hp).2.1
  omega
 refine ⟨8, fun k hk => ?_⟩
 show step_Edge.f k l (p : Int) = some true
 unfold step_Edge.f
 rw [floor_ev hb hl p hp k hk, Option.bind_some]
 dsimp only
 rw [if_pos rfl, hf]
 simp
/-- The breaks, by the edges' numbers. -/
def idxs (bl : List Bool) (w m : Int) : Nat → Int → List Int
 | 0, _ => []
 | k + 1, s => if w < m - s then cutOf bl w s :: idxs bl w m k (cutOf bl w s) else []
theorem wrapGo_idxs (es : List Int) (bl : List Bool) (S w : Int) : ∀ (k : Nat) (s : Int) (out : List Int), wrapGo es bl S w k s out = out ++ (idxs bl w ((es.length : Int) - 1) k s).map fun c => wrap64 (S + rd es c) := by
 intro k
 induction k with
 | zero => intro s out; simp [wrapGo, idxs]
 | succ k ih =>
  intro s out
  simp only [wrapGo, idxs]
  by_cases h : w < (es.length : Int) - 1 - s
  ·rw [if_pos h, if_pos h, ih, List.map_cons, List.append_assoc]
   rfl
  ·rw [if_neg h, if_neg h, List.map_nil, List.append_nil]
theorem scan_spec (bl : List Bool) (s : Int) : ∀ (k : Nat) (p : Int), s ≤ p → p - s ≤ (k : Int) → (∀ q : Int, scanB bl s k p < q → q ≤ p → rdOf false bl q = false) ∧ (scanB bl s k p = s ∨ rdOf false bl (scanB bl s k p) = true) := by
 intro k
 induction k with
 | zero =>
  intro p h1 h2
  have : p = s := by omega
  subst this
  exact ⟨fun q h3 h4 => by simp only [scanB] at h3; omega, .inl rfl⟩
 | succ k ih =>
  intro p h1 h2
  by_cases hc : s < p ∧ rdOf false bl p = false
  ·have e : scanB bl s (k + 1) p = scanB bl s k (p - 1) := by rw [scanB, if_pos hc]
   have h3 : s ≤ p - 1 := by omega
   have h4 : p - 1 - s ≤ (k : Int) := by omega
   obtain ⟨i1, i2⟩ := ih (p - 1) h3 h4
   rw [e]
   refine ⟨fun q h5 h6 => ?_, i2⟩
   by_cases hq : q = p
   ·rw [hq]; exact hc.2
   ·exact i1 q h5 (by omega)
  ·have e : scanB bl s (k + 1) p = p := by rw [scanB, if_neg hc]
   rw [e]
   refine ⟨fun q h5 h6 => by omega, ?_⟩
   by_cases hs : s < p
   ·right
    cases hb : rdOf false bl p with
    | true => rfl
    | false => exact absurd ⟨hs, hb⟩ hc
   ·left; omega
theorem cut_next (bl : List Bool) (w s : Int) (hw : 1 ≤ w) : s + w < cutOf bl w (cutOf bl w s) := by
 have h1 := cutOf_le bl w s hw
 have h2 := cutOf_le bl w (cutOf bl w s) hw
 obtain ⟨a1, a2⟩ := scan_spec bl s w.toNat (s + w) (by omega) (by omega)
 obtain ⟨b1, b2⟩ := scan_spec bl (cutOf bl w s) w.toNat (cutOf bl w s + w) (by omega) (by omega)
 by_cases g : scanB bl s w.toNat (s + w) = s
 ·have e : cutOf bl w s = s + w := by unfold cutOf; rw [if_pos g]
  clear a1 a2 b1 b2 g
  omega
 ·have e : cutOf bl w s = scanB bl s w.toNat (s + w) := by unfold cutOf; rw [if_neg g]
  rw [← e] at a1
  clear a2 g e
  by_cases g2 : scanB bl (cutOf bl w s) w.toNat (cutOf bl w s + w) = cutOf bl w s
  ·have e2 : cutOf bl w (cutOf bl w s) = cutOf bl w s + w := by rw [cutOf, if_pos g2]
   clear a1 b1 b2 g2
   omega
  ·have e2 : cutOf bl w (cutOf bl w s) = scanB bl (cutOf bl w s) w.toNat (cutOf bl w s + w) := by rw [cutOf, if_neg g2]
   have hbl := b2.resolve_left g2
   rw [← e2] at hbl
   clear b1 b2 g2 e2
   refine Int.not_le.1 fun hle => ?_
   rw [a1 _ h2.1 hle] at hbl
   cases hbl
/-- Breaks a, .. of a line with m steps: none too wide, none too many. -/
def Good (w m : Int) : Int → List Int → Prop
 | a, [] => m - a ≤ w
 | a, b :: t => a < b ∧ b ≤ a + w ∧ b < m ∧ (∀ c t', t = c :: t' → a + w < c) ∧ a + w < m ∧ Good w m b t
theorem idxs_good (bl : List Bool) (w m : Int) (hw : 1 ≤ w) : ∀ (k : Nat) (s : Int), m - s < (k : Int) → Good w m s (idxs bl w m k s) := by
 intro k
 induction k with
 | zero => intro s h; simp only [idxs, Good]; omega
 | succ k ih =>
  intro s h
  simp only [idxs]
  by_cases g : w < m - s
  ·rw [if_pos g]
   have h1 := cutOf_le bl w s hw
   have hn := cut_next bl w s hw
   refine ⟨h1.1, h1.2, by omega, fun c t' ht => ?_, by omega, ih _ (by omega)⟩
   cases k with
   | zero => simp [idxs] at ht
   | succ k =>
    simp only [idxs] at ht
    by_cases g2 : w < m - cutOf bl w s
    ·rw [if_pos g2] at ht
     rw [← (List.cons.inj ht).1]
     exact hn
    ·rw [if_neg g2] at ht
     cases ht
  ·rw [if_neg g]
   simp only [Good]
   omega
/-- The same, with the line's end as the last. -/
def GJ (w : Int) : Int → List Int → Prop
 | _, [] => True
 | a, b :: t => a ≤ b ∧ b ≤ a + w ∧ (∀ c t', t = c :: t' → a + w < c) ∧ GJ w b t
theorem gj_of (w m : Int) : ∀ (L : List Int) (a : Int), a ≤ m → Good w m a L → GJ w a (L ++ [m])
 | [], a, h, hg => ⟨h, by simp only [Good] at hg; omega, (fun c t' ht => by cases ht), trivial⟩
 | [b], a, h, hg => by
  obtain ⟨g1, g2, g3, g4, g5, g6⟩ := hg
  exact ⟨Int.le_of_lt g1, g2, (fun c t' ht => by rw [← (List.cons.inj ht).1]; exact g5), gj_of w m [] b (Int.le_of_lt g3) g6⟩
 | b :: x :: t, a, h, hg => by
  obtain ⟨g1, g2, g3, g4, g5, g6⟩ := hg
  exact ⟨Int.le_of_lt g1, g2, (fun c t' ht => by rw [← (List.cons.inj ht).1]; exact g4 x t rfl), gj_of w m (x :: t) b (Int.le_of_lt g3) g6⟩

end Go.Proofs.YtijbkiajhicooaaDoor.PW

namespace Go.Proofs.YtijbkiajhicooaaDoor.PW
open Go.RowKit Go.Proofs.YtijbkiajhicooaaDoorW.PrintWords Go.Proofs.YtijbkiajhicooaaDoorW.PrintLast Go.Proofs.YtijbkiajhicooaaDoorW.PrintMore
attribute [local go_sem] max2_int min2_int max_two min_two max_three min_three max_four min_four   -- for this text's walks alone
set_option linter.unusedVariables false
set_option linter.unusedSimpArgs false

def rowOf (r : S127) : S78 := ⟨r.f0, r.f1, r.f3⟩
theorem rows07_scan (l : List Int) (hl : l.length ≤ 4398046511103) (out : List S78) (st : Int) (C : Nat) (hC : C ≤ l.length) {v : List S78} (h : Ev (fun k => galleyref07_Rows.l0 k l out st (C : Int)) v) :
  ∀ (n i : Nat), i + n = C → PlainTo l (i : Int) (C : Int) → Ev (fun k => galleyref07_Rows.l0 k l out st (i : Int)) v := by
 intro n
 induction n with
 | zero =>
  intro i hi _
  obtain rfl : i = C := by omega
  exact h
 | succ n ih =>
  intro i hi hp
  have c1 : (i : Int) < (l.length : Int) := by omega
  have c2 : 0 ≤ (i : Int) := by omega
  have hw : wrap64 ((i : Int) + 1) = ((i + 1 : Nat) : Int) := by rw [wrap64_small (by omega) (by omega)]; omega
  have ih1 := ih (i + 1) (by omega) (fun q a b => hp q (by omega) b)
  obtain ⟨h10, h13⟩ := hp (i : Int) (by omega) (by omega)
  refine Ev.succ (h := fun k => galleyref07_Rows.j1 k l out st (i : Int) true) (Ev.succ ih1 (fun k => ?_)) (fun k => ?_)
  ·rw [galleyref07_Rows.j1, if_pos rfl, hw]
  ·rw [galleyref07_Rows.l0, if_pos c1, if_pos c2, if_neg h13]
   have : (rd l (i : Int) != 10) = true := by simpa using h10
   rw [this]
theorem wraps_C (C : Nat) (h : C ≤ 4398046511103) : wrap64 ((C : Int) + 1) = (C : Int) + 1 ∧ wrap64 ((C : Int) + 1 + 1) = (C : Int) + 2 ∧ wrap64 (wrap64 ((C : Int) + 2 - 1) + 1) = (C : Int) + 2 ∧ wrap64 (wrap64 ((C : Int) + 1 - 1) + 1) = (C : Int) + 1 := by
 have a1 : (C : Int) + 1 + 1 = (C : Int) + 2 := by omega
 have a2 : (C : Int) + 2 - 1 = (C : Int) + 1 := by omega
 have a3 : (C : Int) + 1 - 1 = (C : Int) := by omega
 have b1 : wrap64 ((C : Int) + 1) = (C : Int) + 1 := wrap64_small (by omega) (by omega)
 have b2 : wrap64 ((C : Int) + 2) = (C : Int) + 2 := wrap64_small (by omega) (by omega)
 have b3 : wrap64 (C : Int) = (C : Int) := wrap64_small (by omega) (by omega)
 refine ⟨b1, ?_, ?_, ?_⟩
 ·rw [a1, b2]
 ·rw [a2, b1, a1, b2]
 ·rw [a3, b3, b1]
theorem rows07_lines {l : List Int} (hl : l.length ≤ 4398046511103) : ∀ (rs : List S127) (S : Nat) (out : List S78), LChain l (S : Int) rs → S ≤ l.length → out.length ≤ S →
  Ev (fun k => galleyref07_Rows.l0 k l out (S : Int) (S : Int)) (out ++ rs.map rowOf) := by
 intro rs
 induction rs with
 | nil => intro S out h; exact absurd h (by simp [LChain])
 | cons r rs ih =>
  intro S out h hSl ho
  obtain ⟨h0, h1, h2, h3⟩ := h
  obtain ⟨C, hC⟩ : ∃ C : Nat, r.f1 = (C : Int) := ⟨r.f1.toNat, by omega⟩
  have hSC : S ≤ C := by omega
  rw [hC] at h2
  have hol : out.length < 5864062014805 := by omega
  rcases h3 with ⟨h3, h4, _, h6⟩ | ⟨h3, h4⟩
  ·have hCl : C = l.length := by omega
   have hr : rowOf r = ⟨(S : Int), (l.length : Int), (l.length : Int)⟩ := by unfold rowOf; rw [h0, h4, h6]
   have hnn : ¬ (C : Int) < (l.length : Int) := by omega
   refine rows07_scan l hl out (S : Int) C (by omega) ?_ (C - S) S (by omega) h2
   rw [h3, List.map_cons, List.map_nil, hr]
   refine Ev.succ (Ev.pure (out ++ [(⟨(S : Int), (l.length : Int), (l.length : Int)⟩ : S78)])) (fun k => ?_)
   rw [galleyref07_Rows.l0, if_neg hnn, if_pos hol]
  ·obtain ⟨n, hn, hE⟩ := lend_of h3 (by omega)
   rw [hC, Int.toNat_natCast] at hE
   rw [hn] at h4
   have hr : rowOf r = ⟨(S : Int), (C : Int), (n : Int)⟩ := by unfold rowOf; rw [h0, hC, hn]
   obtain ⟨e1, e2, e3, e4, e5⟩ := hE
   have hSn : S ≤ n := by rcases e5 with e | ⟨e, _⟩ <;> omega
   have hon : (out ++ [rowOf r]).length ≤ n := by simp; rcases e5 with e | ⟨e, _⟩ <;> omega
   have hrec := ih n (out ++ [rowOf r]) h4 e2 hon
   have c1 : (C : Int) < (l.length : Int) := by omega
   have c2 : 0 ≤ (C : Int) := by omega
   have c3 : 0 ≤ (C : Int) + 1 := by omega
   have g1 : ((C + 1 : Nat) : Int) = (C : Int) + 1 := by omega
   have g2 : ((C + 2 : Nat) : Int) = (C : Int) + 2 := by omega
   have hCn : C ≤ 4398046511103 := by omega
   have hC1 : (C : Int) + 1 < (l.length : Int) ∨ ¬ (C : Int) + 1 < (l.length : Int) := by omega
   have hC1n : (C : Int) + 1 < (l.length : Int) → C + 1 < l.length := fun h => by omega
   have hnC : n = C + 2 → (C : Int) + 1 < (l.length : Int) := fun h => by omega
   obtain ⟨w1, w2, w3, w4⟩ := wraps_C C hCn
   rw [List.map_cons, List.append_cons]
   refine rows07_scan l hl out (S : Int) C (Nat.le_of_lt e1) ?_ (C - S) S (Nat.add_sub_cancel' hSC) h2
   refine Ev.succ (h := fun k => galleyref07_Rows.j1 k l out (S : Int) (C : Int) false) ?_ (fun k => ?_)
   ·by_cases g13 : rd l (C : Int) = 13
    ·rcases e5 with e5 | ⟨e5, e6, e7, e8⟩
     ·subst e5
      rw [hr, g1] at hrec
      rw [hr]
      refine Ev.succ hrec (fun k => ?_)
      rw [galleyref07_Rows.j1, if_neg (by decide), if_pos c2, if_pos c1, if_pos g13, w1]
      rcases hC1 with g2' | g2'
      ·have g10 : ¬ rd l ((C : Int) + 1) = 10 := by
        intro e
        rw [← g1] at e
        have := starts_mid (hC1n g2') g13 e
        rw [this] at e4
        cases e4
       rw [if_pos g2', if_pos c3, if_neg g10, if_pos hol, w4]
      ·rw [if_neg g2', if_pos hol, w4]
     ·subst e5
      rw [hr, g2] at hrec
      rw [hr]
      have c4 := hnC rfl
      rw [g1] at e8
      refine Ev.succ hrec (fun k => ?_)
      rw [galleyref07_Rows.j1, if_neg (by decide), if_pos c2, if_pos c1, if_pos g13, w1, if_pos c4, if_pos c3, if_pos e8, if_pos hol, w2, w3]
    ·have e5' : n = C + 1 := by
      rcases e5 with e5 | ⟨_, _, e7, _⟩
      ·exact e5
      ·exact absurd e7 g13
     subst e5'
     rw [hr, g1] at hrec
     rw [hr]
     refine Ev.succ hrec (fun k => ?_)
     rw [galleyref07_Rows.j1, if_neg (by decide), if_pos c2, if_pos c1, if_neg g13, w1, if_pos hol, w4]
   ·rw [galleyref07_Rows.l0, if_pos c1, if_pos c2]
    by_cases g13 : rd l (C : Int) = 13
    ·rw [if_pos g13]
    ·have g10 : rd l (C : Int) = 10 := e3.resolve_right g13
     rw [if_neg g13, g10]
     rfl
theorem rows07_ev {l : List Int} (hl : l.length ≤ 4398046511103) : Ev (fun k => galleyref07_Rows.f k l) ((allLines l).map rowOf) := by
 have := rows07_lines hl (allLines l) 0 [] (allLines_chain l) (Nat.zero_le _) (Nat.le_refl _)
 rw [List.nil_append] at this
 exact this

end Go.Proofs.YtijbkiajhicooaaDoor.PW

namespace Go.Proofs.YtijbkiajhicooaaDoor.PW
open Go.RowKit Go.Proofs.YtijbkiajhicooaaDoorW.PrintWords Go.Proofs.YtijbkiajhicooaaDoorW.PrintLast Go.Proofs.YtijbkiajhicooaaDoorW.PrintMore
attribute [local go_sem] max2_int min2_int max_two min_two max_three min_three max_four min_four   -- for this text's walks alone
set_option linter.unusedVariables false
set_option linter.unusedSimpArgs false

theorem lineAt_length (l : List Int) : ∀ (k : Nat) (s i : Int) (out : List S127), (lineAt l k s i out).length ≤ out.length + k := by
 intro k
 induction k with
 | zero => intro s i out; simp [lineAt]
 | succ k ih =>
  intro s i out
  simp only [lineAt]
  repeat' split
  ·refine Nat.le_trans (ih _ _ _) (by simp; omega)
  ·refine Nat.le_trans (ih _ _ _) (by simp; omega)
  ·refine Nat.le_trans (ih _ _ _) (by simp; omega)
  ·refine Nat.le_trans (ih _ _ _) (by omega)
  ·simp
theorem allLines_length (l : List Int) : (allLines l).length ≤ l.length + 1 := by
 have := lineAt_length l (l.length + 1) 0 0 []
 simpa [allLines] using this
theorem line_ev {l : List Int} (hl : l.length ≤ 4398046511103) (j : Nat) (hj : j < (allLines l).length) :
  lines_Line.f l (j : Int) = some ((rd_T127 (allLines l) (j : Int)).f0, (rd_T127 (allLines l) (j : Int)).f1, (rd_T127 (allLines l) (j : Int)).f3, 0) := by
 have hall : lines_all.f l = some (allLines l) := by unfold lines_all.f; rw [if_pos hl]
 unfold lines_Line.f
 rw [hall, Option.bind_some, if_neg (by omega), if_neg (by omega), if_pos (by omega), if_pos (by omega)]
end Go.Proofs.YtijbkiajhicooaaDoor.PW
namespace Go.Proofs.YtijbkiajhicooaaDoor.Pure
open Go.Proofs.YtijbkiajhicooaaDoor.PW Go.RowKit
end Go.Proofs.YtijbkiajhicooaaDoor.Pure
namespace Go.Proofs.YtijbkiajhicooaaDoor.PW

end Go.Proofs.YtijbkiajhicooaaDoor.PW

namespace Go.Proofs.YtijbkiajhicooaaDoor.PW
open Go.RowKit Go.Proofs.YtijbkiajhicooaaDoorW.PrintWords Go.Proofs.YtijbkiajhicooaaDoorW.PrintLast Go.Proofs.YtijbkiajhicooaaDoorW.PrintMore
attribute [local go_sem] max2_int min2_int max_two min_two max_three min_three max_four min_four   -- for this text's walks alone
set_option linter.unusedVariables false
set_option linter.unusedSimpArgs false

/-- The breaks of all lines. -/
def allWraps (l : List Int) (w : Int) (rs : List S127) : List Int := rs.flatMap fun r => wrapsOf (piece l r.f0.toNat r.f1.toNat) r.f0 w
theorem words_wrap_l0 {l : List Int} (hl : l.length ≤ 4398046511103) (w : Int) (hw1 : 1 ≤ w) (hw2 : w ≤ 65536) : ∀ (rs : List S127) (i S : Nat) (out : List Int), (allLines l).drop i = rs → LChain l (S : Int) rs → S ≤ l.length → out.length ≤ S →
  Ev (fun k => words_Wrap.l0 k l w out ((allLines l).length : Int) (i : Int)) (out ++ allWraps l w rs, 0) := by
 have hal := allLines_length l
 intro rs
 induction rs with
 | nil => intro i S out h0 h; exact absurd h (by simp [LChain])
 | cons r rs ih =>
  intro i S out hd h hSl ho
  obtain ⟨h0, h1, h2, h3⟩ := h
  have hi : i < (allLines l).length := by
   refine Nat.lt_of_not_le fun h => ?_
   rw [List.drop_of_length_le h] at hd
   cases hd
  have hlen0 : (allLines l).length - i = rs.length + 1 := by rw [← List.length_drop, hd]; rfl
  have hnn : rs.length = 0 → ¬ ((i + 1 : Nat) : Int) < ((allLines l).length : Int) := fun e => by omega
  clear hlen0
  have hd2 := hd
  rw [List.drop_eq_getElem_cons hi] at hd2
  obtain ⟨hr, hd3⟩ := List.cons.inj hd2
  have hrd := rd_line (allLines l) i hi
  rw [hr] at hrd
  have hli := line_ev hl i hi
  rw [hrd] at hli
  obtain ⟨C, hC⟩ : ∃ C : Nat, r.f1 = (C : Int) := ⟨r.f1.toNat, by omega⟩
  have hSC : S ≤ C := by omega
  have hCl : C ≤ l.length := by
   rcases h3 with ⟨_, h4, _⟩ | ⟨h3, _⟩
   ·omega
   ·rcases h3 with h | h | h <;> omega
  obtain ⟨q1, q2⟩ := wrapsOf_length S C hCl hSC (S : Int) w hw1
  have hpl := piece_len l S C hCl
  have hwr : words_wrapped.f (piece l S C) (S : Int) w = some (wrapsOf (piece l S C) (S : Int) w) := by
   unfold words_wrapped.f
   rw [if_pos ⟨by omega, hw1, hw2⟩]
  have hlen : (out ++ wrapsOf (piece l S C) (S : Int) w).length ≤ C := by rw [List.length_append]; omega
  have c1 : (i : Int) < ((allLines l).length : Int) := by omega
  have c2 : (0 : Int) ≤ (S : Int) := by omega
  have c3 : (S : Int) ≤ (C : Int) := by omega
  have c4 : (C : Int) ≤ (l.length : Int) := by omega
  have c5 : out.length + (wrapsOf (piece l S C) (S : Int) w).length < 17592186044416 := by omega
  have hw : wrap64 ((i : Int) + 1) = ((i + 1 : Nat) : Int) := by rw [wrap64_small (by omega) (by omega)]; omega
  have hone : wrapsOf (piece l r.f0.toNat r.f1.toNat) r.f0 w = wrapsOf (piece l S C) (S : Int) w := by rw [h0, hC, Int.toNat_natCast, Int.toNat_natCast]
  unfold allWraps
  rw [List.flatMap_cons, hone, ← List.append_assoc]
  rw [h0, hC] at hli
  refine Ev.succ (h := fun k => words_Wrap.l0 k l w (out ++ wrapsOf (piece l S C) (S : Int) w) ((allLines l).length : Int) ((i + 1 : Nat) : Int)) ?_ (fun k => ?_)
  ·rcases h3 with ⟨h3, _⟩ | ⟨h3, h4⟩
   ·subst h3
    have hnn := hnn rfl
    rw [List.flatMap_nil, List.append_nil]
    refine Ev.succ (Ev.pure (out ++ wrapsOf (piece l S C) (S : Int) w, (0 : Int))) (fun k => ?_)
    rw [words_Wrap.l0, if_neg hnn]
   ·obtain ⟨n, hn, hE⟩ := lend_of h3 (by omega)
    rw [hC, Int.toNat_natCast] at hE
    rw [hn] at h4
    have hCn : C ≤ n := by rcases hE.2.2.2.2 with e | ⟨e, _⟩ <;> omega
    exact ih (i + 1) n _ hd3 h4 hE.2.1 (Nat.le_trans hlen hCn)
  ·rw [words_Wrap.l0, if_pos c1, hli, Option.bind_some]
   dsimp only
   rw [if_pos c2, if_pos c3, if_pos c4, Int.toNat_natCast, Int.toNat_natCast, hwr, Option.bind_some, if_pos c5, hw]
/-- The answer of Wrap. -/
def wrapAt (l : List Int) (w : Int) : List Int × Int := if w < 1 ∨ w > 65536 then ([], 2) else (allWraps l w (allLines l), 0)
theorem words_wrap_ev {l : List Int} (hl : l.length ≤ 4398046511103) (w : Int) : Ev (fun k => words_Wrap.f k l w) (wrapAt l w) := by
 have hall : lines_Count.f l = some ((allLines l).length : Int) := by
  unfold lines_Count.f lines_all.f
  rw [if_pos hl, Option.bind_some]
 have hj : ∀ b : Bool, b = decide (w < 1 ∨ w > 65536) → Ev (fun k => words_Wrap.j0 k l w b) (wrapAt l w) := by
  intro b hb'
  unfold wrapAt
  by_cases h : w < 1 ∨ w > 65536
  ·rw [if_pos h]
   refine Ev.succ (Ev.pure (([] : List Int), (2 : Int))) (fun k => ?_)
   rw [words_Wrap.j0, if_pos (by rw [hb', decide_eq_true h])]
  ·rw [if_neg h]
   have := words_wrap_l0 hl w (by omega) (by omega) (allLines l) 0 0 [] rfl (allLines_chain l) (Nat.zero_le _) (Nat.le_refl _)
   rw [List.nil_append] at this
   refine Ev.succ this (fun k => ?_)
   rw [words_Wrap.j0, if_neg (by rw [hb', decide_eq_false h]; decide), hall, Option.bind_some]
   rfl
 unfold words_Wrap.f
 by_cases h1 : w < 1
 ·simp only [if_pos h1]
  exact hj _ (decide_eq_true (.inl h1)).symm
 simp only [if_neg h1]
 exact hj _ (by by_cases g : w > 65536 <;> simp [g, h1])
theorem allWraps_length {l : List Int} (w : Int) (hw1 : 1 ≤ w) : ∀ (rs : List S127) (S : Nat), LChain l (S : Int) rs → S ≤ l.length → S + (allWraps l w rs).length ≤ l.length := by
 intro rs
 induction rs with
 | nil => intro S h; exact absurd h (by simp [LChain])
 | cons r rs ih =>
  intro S h hSl
  obtain ⟨h0, h1, h2, h3⟩ := h
  obtain ⟨C, hC⟩ : ∃ C : Nat, r.f1 = (C : Int) := ⟨r.f1.toNat, by omega⟩
  have hSC : S ≤ C := by omega
  have hCl : C ≤ l.length := by
   rcases h3 with ⟨_, h4, _⟩ | ⟨h3, _⟩
   ·omega
   ·rcases h3 with h | h | h <;> omega
  obtain ⟨q1, q2⟩ := wrapsOf_length S C hCl hSC (S : Int) w hw1
  have hone : wrapsOf (piece l r.f0.toNat r.f1.toNat) r.f0 w = wrapsOf (piece l S C) (S : Int) w := by rw [h0, hC, Int.toNat_natCast, Int.toNat_natCast]
  unfold allWraps
  rw [List.flatMap_cons, hone, List.length_append]
  rcases h3 with ⟨h3, _⟩ | ⟨h3, h4⟩
  ·rw [h3, List.flatMap_nil, List.length_nil]
   omega
  ·obtain ⟨n, hn, hE⟩ := lend_of h3 (by omega)
   rw [hC, Int.toNat_natCast] at hE
   rw [hn] at h4
   have hCn : C ≤ n := by rcases hE.2.2.2.2 with e | ⟨e, _⟩ <;> omega
   have := ih n h4 hE.2.1
   unfold allWraps at this
   omega
theorem wrapAt_length (l : List Int) (w : Int) : (wrapAt l w).1.length ≤ l.length := by
 unfold wrapAt
 split
 ·exact Nat.zero_le _
 ·have := allWraps_length (l := l) w (by omega) (allLines l) 0 (allLines_chain l) (Nat.zero_le _)
  show (allWraps l w (allLines l)).length ≤ _
  omega
end Go.Proofs.YtijbkiajhicooaaDoor.PW
namespace Go.Proofs.YtijbkiajhicooaaDoor.Pure
open Go.Proofs.YtijbkiajhicooaaDoor.PW Go.RowKit
end Go.Proofs.YtijbkiajhicooaaDoor.Pure
namespace Go.Proofs.YtijbkiajhicooaaDoor.PW

end Go.Proofs.YtijbkiajhicooaaDoor.PW

namespace Go.Proofs.YtijbkiajhicooaaDoor.PW
open Go.RowKit Go.Proofs.YtijbkiajhicooaaDoorW.PrintWords Go.Proofs.YtijbkiajhicooaaDoorW.PrintLast Go.Proofs.YtijbkiajhicooaaDoorW.PrintMore
attribute [local go_sem] max2_int min2_int max_two min_two max_three min_three max_four min_four   -- for this text's walks alone
set_option linter.unusedVariables false
set_option linter.unusedSimpArgs false

theorem rd_mid (A : List Int) (x : Int) (B : List Int) (n : Int) (hn : n = (A.length : Int)) : rd (A ++ x :: B) n = x := by
 subst hn
 unfold rd
 rw [List.getD_eq_getElem?_getD, Int.toNat_natCast]
 simp
/-- The place of an edge, by its number behind a line's beginning. -/
abbrev plc (l : List Int) (b : Nat) (c : Int) : Int := rd (psL l) ((b : Int) + c)
theorem plc_at {l : List Int} (hb : Bytes l) (hl : l.length ≤ 4398046511104) (b m : Nat) (hm : b + m ≤ (stepsL l).length) (c : Int) (h0 : 0 ≤ c) (h1 : c ≤ (m : Int)) : ∃ p : Nat, plc l b c = (p : Int) ∧ AtE l p (b + c.toNat) := by
 obtain ⟨p, hp, _⟩ := atE_ex hb hl (b + c.toNat) (by omega)
 have e := atE_place hb hl hp
 rw [show ((b + c.toNat : Nat) : Int) = (b : Int) + c by omega] at e
 exact ⟨p, e, hp⟩
theorem plc_lt {l : List Int} (hb : Bytes l) (hl : l.length ≤ 4398046511104) (b m : Nat) (hm : b + m ≤ (stepsL l).length) (c d : Int) (h0 : 0 ≤ c) (h1 : c < d) (h2 : d ≤ (m : Int)) : plc l b c < plc l b d := by
 obtain ⟨p, e1, g1⟩ := plc_at hb hl b m hm c h0 (by omega)
 obtain ⟨q, e2, g2⟩ := plc_at hb hl b m hm d (by omega) h2
 have hd : b + d.toNat = b + c.toNat + (d.toNat - c.toNat) := by omega
 rw [hd] at g2
 have := atE_mono hb hl _ g1 g2
 rw [e1, e2]
 omega
theorem plc_steps {l : List Int} (hb : Bytes l) (hl : l.length ≤ 4398046511103) (b m : Nat) (hm : b + m ≤ (stepsL l).length) (c d : Int) (h0 : 0 ≤ c) (h1 : c ≤ d) (h2 : d ≤ (m : Int)) :
  0 ≤ plc l b c ∧ plc l b c ≤ plc l b d ∧ plc l b d ≤ (l.length : Int) ∧ galleylaw22_steps.f ((l.take (plc l b d).toNat).drop (plc l b c).toNat) = some (d - c) := by
 have hl4 : l.length ≤ 4398046511104 := by omega
 obtain ⟨p, e1, g1⟩ := plc_at hb hl4 b m hm c h0 (by omega)
 obtain ⟨q, e2, g2⟩ := plc_at hb hl4 b m hm d (by omega) h2
 have hd : b + d.toNat = b + c.toNat + (d.toNat - c.toNat) := by omega
 have hdc : ((d.toNat - c.toNat : Nat) : Int) = d - c := by omega
 rw [hd] at g2
 have hmo := atE_mono hb hl4 _ g1 g2
 have hq := g2.1
 have hsc := steps_count hb hl4 g1 g2
 have hlen := piece_len l p q hq
 rw [e1, e2, Int.toNat_natCast, Int.toNat_natCast]
 refine ⟨by omega, by omega, by omega, ?_⟩
 have hle : (piece l p q).length ≤ 4398046511103 := by rw [hlen]; omega
 have := steps_f (piece l p q) hle
 rw [hsc, hdc] at this
 exact this
section
variable {l : List Int} (hl : l.length ≤ 4398046511103) (w : Int) (hw1 : 1 ≤ w) (lw : List Int) (R : List S78) (g : Int → Int) (m : Nat)
theorem fit_l2 (hgs : ∀ c d : Int, 0 ≤ c → c ≤ d → d ≤ (m : Int) → 0 ≤ g c ∧ g c ≤ g d ∧ g d ≤ (l.length : Int) ∧ galleylaw22_steps.f ((l.take (g d).toNat).drop (g c).toNat) = some (d - c)) (x7 x9 : Int) {v : Bool} (h : Ev (fun k => galleylaw22_WordsFit.l0 k l w lw x7 R (wrap64 (x9 + 1))) v) : ∀ (L' : List Int) (a : Int) (Pre : List Int), 0 ≤ a → a ≤ (m : Int) → GJ w a L' → (∀ c ∈ L', c ≤ (m : Int)) →
  (Pre.length + L'.length : Nat) ≤ 4398046511110 → (Pre = [] ∨ ∃ P' z0, Pre = P' ++ [g z0] ∧ 0 ≤ z0 ∧ z0 ≤ a ∧ ∀ c t', L' = c :: t' → z0 + w < c) →
  Ev (fun k => galleylaw22_WordsFit.l2 k l w lw x7 R x9 (Pre ++ (a :: L').map g) ((Pre.length : Int) + 1)) v := by
 intro L'
 induction L' with
 | nil =>
  intro a Pre h0 h1 _ _ _ _
  refine Ev.succ h (fun k => ?_)
  rw [galleylaw22_WordsFit.l2, if_neg (by simp)]
 | cons c t ih =>
  intro a Pre h0 h1 hg hc hlen hP
  obtain ⟨g1, g2, g3, g4⟩ := hg
  have hcm := hc c (by simp)
  have hlen' : Pre.length + (c :: t).length ≤ 4398046511110 := hlen
  rw [List.length_cons] at hlen'
  have hj : ((Pre ++ [g a]).length : Int) = (Pre.length : Int) + 1 := by simp
  have hjn : (Pre ++ [g a]).length = Pre.length + 1 := by simp
  have hwj : wrap64 ((Pre.length : Int) + 1 + 1) = (Pre.length : Int) + 1 + 1 := wrap64_small (by omega) (by omega)
  have hw1' : wrap64 ((Pre.length : Int) + 1 - 1) = (Pre.length : Int) := by rw [Int.add_sub_cancel, wrap64_small (by omega) (by omega)]
  have hD : ((Pre ++ (a :: c :: t).map g).length : Int) = (Pre.length : Int) + 2 + (t.length : Int) := by simp; omega
  have c1 : (Pre.length : Int) + 1 < ((Pre ++ (a :: c :: t).map g).length : Int) := by omega
  have c2 : 0 ≤ (Pre.length : Int) := by omega
  have c3 : (Pre.length : Int) < ((Pre ++ (a :: c :: t).map g).length : Int) := by omega
  have c4 : 0 ≤ (Pre.length : Int) + 1 := by omega
  have c5 : ¬ c - a > w := by omega
  have hc0 : 0 ≤ c := by omega
  have hlr : ((Pre ++ [g a]).length + t.length : Nat) ≤ 4398046511110 := by omega
  have hw2 : wrap64 ((Pre.length : Int) - 1) = (Pre.length : Int) - 1 := wrap64_small (by omega) (by omega)
  have hp2 : (Pre.length : Int) + 1 - 2 = (Pre.length : Int) - 1 := by omega
  have c6 : (Pre.length : Int) + 1 > 1 → 0 ≤ (Pre.length : Int) - 1 := fun h => by omega
  have c7 : (Pre.length : Int) - 1 < ((Pre ++ (a :: c :: t).map g).length : Int) := by omega
  have hz : ∀ z0 : Int, z0 ≤ a → z0 ≤ c := fun z0 h => by omega
  have hzz : ∀ z0 : Int, z0 + w < c → ¬ c - z0 ≤ w := fun z0 h => by omega
  have hrec := ih c (Pre ++ [g a]) hc0 hcm g4 (fun d hd => hc d (by simp [hd])) hlr (.inr ⟨Pre, a, rfl, h0, g1, g3⟩)
  rw [hj, List.append_assoc] at hrec
  have hl0 : Pre ++ ([g a] ++ (c :: t).map g) = Pre ++ (a :: c :: t).map g := rfl
  rw [hl0] at hrec
  have hcase : ((Pre.length : Int) + 1 > 1 → ∃ z0 : Int, 0 ≤ z0 ∧ z0 ≤ a ∧ z0 + w < c ∧ rd (Pre ++ (a :: c :: t).map g) ((Pre.length : Int) - 1) = g z0) := by
   intro hgt
   rcases hP with rfl | ⟨P', z0, rfl, z1, z2, z3⟩
   ·exact absurd hgt (by decide)
   ·refine ⟨z0, z1, z2, z3 c t rfl, ?_⟩
    rw [List.append_assoc]
    exact rd_mid P' _ _ _ (by simp)
  have r1 : rd (Pre ++ (a :: c :: t).map g) (Pre.length : Int) = g a := rd_mid Pre _ _ _ rfl
  have r2 : rd (Pre ++ (a :: c :: t).map g) ((Pre.length : Int) + 1) = g c := by
   rw [← hl0, ← List.append_assoc]
   exact rd_mid (Pre ++ [g a]) _ _ _ hj.symm
  obtain ⟨s1, s2, s3, s4⟩ := hgs a c h0 g1 hcm
  by_cases hgt : (Pre.length : Int) + 1 > 1
  ·obtain ⟨z0, z1, z2, z3, z4⟩ := hcase hgt
   obtain ⟨q1, q2, q3, q4⟩ := hgs z0 c z1 (hz z0 z2) hcm
   refine Ev.succ hrec (fun k => ?_)
   rw [galleylaw22_WordsFit.l2, if_pos c1, hw1', if_pos c2, if_pos c3, if_pos c4, r1, r2, if_pos s1, if_pos s2, if_pos s3, s4, Option.bind_some, if_neg c5, if_pos hgt, hp2, hw2, if_pos (c6 hgt), if_pos c7, z4, if_pos q1, if_pos q2, q4, Option.bind_some, if_neg (hzz z0 z3), hwj]
  ·refine Ev.succ hrec (fun k => ?_)
   rw [galleylaw22_WordsFit.l2, if_pos c1, hw1', if_pos c2, if_pos c3, if_pos c4, r1, r2, if_pos s1, if_pos s2, if_pos s3, s4, Option.bind_some, if_neg c5, if_neg hgt, hwj]
include hl in
theorem fit_l1 (hm : m ≤ 4398046511103) (hlt : ∀ c d : Int, 0 ≤ c → c < d → d ≤ (m : Int) → g c < g d) (hed : ∀ c : Int, 0 ≤ c → c ≤ (m : Int) → Ev (fun k => step_Edge.f k l (g c)) true) (x9 : Nat) (r : S78) (hx9 : x9 < R.length) (hr : rd_T78 R (x9 : Int) = r) (hC : Aside0 (r.f1 = g (m : Int))) (hlw : lw.length ≤ 4398046511104) (B : List Int) (hB : ∀ y t, B = y :: t → r.f1 < y) {v : Bool} :
  ∀ (L : List Int) (A X : List Int) (a : Int), lw = A ++ L.map g ++ B → Good w (m : Int) a L → 0 ≤ a → a ≤ (m : Int) → (X.length : Int) ≤ a →
  Ev (fun k => galleylaw22_WordsFit.l2 k l w lw ((A.length : Int) + (L.length : Int)) R (x9 : Int) ((X ++ [g a]) ++ L.map g ++ [g (m : Int)]) 1) v →
  Ev (fun k => galleylaw22_WordsFit.l1 k l w lw (A.length : Int) R (x9 : Int) (X ++ [g a])) v := by
 have cx1 : 0 ≤ (x9 : Int) := by omega
 have cx2 : (x9 : Int) < (R.length : Int) := by omega
 intro L
 induction L with
 | nil =>
  intro A X a hA _ h0 h1 hX h
  have hxl : (X ++ [g a]).length < 17592186044416 := by rw [List.length_append, List.length_singleton]; omega
  rw [List.map_nil, List.append_nil] at hA h
  have hj : Ev (fun k => galleylaw22_WordsFit.j2 k l w lw (A.length : Int) R (x9 : Int) (X ++ [g a]) false) v := by
   have e0 : (A.length : Int) + (([] : List Int).length : Int) = (A.length : Int) := by simp
   rw [e0] at h
   refine Ev.succ h (fun k => ?_)
   rw [galleylaw22_WordsFit.j2, if_neg (by decide), if_pos cx1, if_pos cx2, if_pos hxl, hr, hC.out]
  refine Ev.succ hj (fun k => ?_)
  cases hBc : B with
  | nil =>
   rw [hBc, List.append_nil] at hA
   have hn : ¬ (A.length : Int) < (lw.length : Int) := by rw [hA]; omega
   rw [galleylaw22_WordsFit.l1, if_neg hn]
  | cons y t =>
   have hy := hB y t hBc
   have hn : (A.length : Int) < (lw.length : Int) := by rw [hA, hBc]; simp; omega
   have hrd : rd lw (A.length : Int) = y := by rw [hA, hBc]; exact rd_mid A y t _ rfl
   have hA0 : 0 ≤ (A.length : Int) := by clear hrd; omega
   have hd : decide (y ≤ r.f1) = false := decide_eq_false (Int.not_le.2 hy)
   rw [galleylaw22_WordsFit.l1, if_pos hn, if_pos hA0, if_pos cx1, if_pos cx2, hrd, hr, hd]
 | cons c t ih =>
  intro A X a hA hg h0 h1 hX h
  obtain ⟨g1, g2, g3, _, _, g6⟩ := hg
  have hxl : (X ++ [g a]).length < 17592186044416 := by rw [List.length_append, List.length_singleton]; omega
  have hX1 : ((X ++ [g a]).length : Int) ≤ c := by rw [List.length_append, List.length_singleton]; omega
  have hX2 : ((X ++ [g a]).length : Int) - 1 = (X.length : Int) := by rw [List.length_append, List.length_singleton]; omega
  have hXb : (X.length : Int) ≤ 4398046511110 := by omega
  have cX0 : 0 ≤ (X.length : Int) := by omega
  have cX1 : (X.length : Int) < ((X ++ [g a]).length : Int) := by rw [List.length_append, List.length_singleton]; omega
  have hc0 : 0 ≤ c := by omega
  have hcm : c ≤ (m : Int) := by omega
  have hlA : lw.length = A.length + 1 + t.length + B.length := by rw [hA]; simp; omega
  have hA0 : 0 ≤ (A.length : Int) := by omega
  have hn : (A.length : Int) < (lw.length : Int) := by omega
  have hwA : wrap64 ((A.length : Int) + 1) = ((A ++ [g c]).length : Int) := by rw [wrap64_small (by omega) (by omega)]; simp
  have hA2 : lw = (A ++ [g c]) ++ t.map g ++ B := by rw [hA]; simp
  have hlen2 : (A.length : Int) + ((c :: t).length : Int) = ((A ++ [g c]).length : Int) + (t.length : Int) := by simp; omega
  have hlst : (X ++ [g a]) ++ (c :: t).map g ++ [g (m : Int)] = ((X ++ [g a]) ++ [g c]) ++ t.map g ++ [g (m : Int)] := by simp
  have hXw : wrap64 ((X.length : Int)) = (X.length : Int) := wrap64_small (Int.le_trans (by decide) cX0) (Int.le_trans hXb (by decide))
  have k1 := hlt a c h0 g1 hcm
  have k2 := hlt c (m : Int) hc0 g3 (Int.le_refl _)
  have hed := hed c hc0 hcm
  rw [hlen2, hlst] at h
  have hrec := ih (A ++ [g c]) (X ++ [g a]) c hA2 g6 hc0 hcm hX1 h
  have hrd : rd lw (A.length : Int) = g c := by rw [hA2, List.append_assoc, List.append_assoc]; exact rd_mid A _ _ _ rfl
  have hrX : rd (X ++ [g a]) (X.length : Int) = g a := rd_mid X _ [] _ rfl
  have d1 : decide (g c ≤ r.f1) = true := decide_eq_true (by rw [hC.out]; exact Int.le_of_lt k2)
  have d2 : ¬ g c ≤ g a := Int.not_le.2 k1
  have d3 : ¬ g c ≥ r.f1 := by rw [hC.out]; exact Int.not_le.2 k2
  clear k1 k2
  refine Ev.succ (h := fun k => galleylaw22_WordsFit.j2 k l w lw (A.length : Int) R (x9 : Int) (X ++ [g a]) true) ?_ (fun k => ?_)
  ·refine Ev.succ (h := fun k => (galleylaw22_own.f l).bind fun t0 => (step_Edge.f k t0 (g c)).bind fun t1 => if t1 = true then galleylaw22_WordsFit.l1 k l w lw ((A ++ [g c]).length : Int) R (x9 : Int) ((X ++ [g a]) ++ [g c]) else some false) ?_ (fun k => ?_)
   ·refine Ev.bind (Ev.of_eq fun _ => own_some l hl) ?_
    refine Ev.bind hed ?_
    simp only [if_true]
    exact hrec
   ·rw [galleylaw22_WordsFit.j2, if_pos rfl, if_pos hA0, if_pos hn, hX2, hXw, if_pos cX0, if_pos cX1, hrd, hrX, if_neg d2, if_pos cx1, if_pos cx2, hr, if_neg d3, if_pos hxl, hwA]
  ·rw [galleylaw22_WordsFit.l1, if_pos hn, if_pos hA0, if_pos cx1, if_pos cx2, hrd, hr, d1]
end
/-- A line's breaks, by the edges' numbers. -/
theorem line_breaks {l : List Int} (hb : Bytes l) (hl : l.length ≤ 4398046511103) {S C b : Nat} (hSC : S ≤ C) (hC : C ≤ l.length) (hv : Vis l C) (hplain : PlainTo l (S : Int) (C : Int)) (hA : AtE l S b) (w : Int) (hw1 : 1 ≤ w) :
  ∃ (m : Nat) (L : List Int), b + m ≤ (stepsL l).length ∧ AtE l C (b + m) ∧ plc l b 0 = (S : Int) ∧ plc l b (m : Int) = (C : Int) ∧ wrapsOf (piece l S C) (S : Int) w = L.map (plc l b) ∧ Good w (m : Int) 0 L := by
 have hl4 : l.length ≤ 4398046511104 := by omega
 have H := corr_line hb hl hSC hC hv hplain hA
 have hE := corr_end hb hl hSC hC hv hplain hA
 have hle := atE_le hE
 have hm := H.hm
 have hgood := idxs_good (blanksOf (stepsL (piece l S C))) w ((stepsL (piece l S C)).length : Int) hw1 (edgesOf (stepsL (piece l S C))).length 0 (by omega)
 have hall : ∀ (L : List Int) (a : Int), 0 ≤ a → Good w ((stepsL (piece l S C)).length : Int) a L → ∀ c ∈ L, 1 ≤ c ∧ c ≤ ((stepsL (piece l S C)).length : Int) := by
  intro L
  induction L with
  | nil => intro a _ _ c hc; cases hc
  | cons x t ih =>
   intro a ha hg c hc
   obtain ⟨g1, g2, g3, _, _, g6⟩ := hg
   rcases List.mem_cons.1 hc with rfl | hc
   ·omega
   ·exact ih x (by omega) g6 c hc
 have e0 := atE_place hb hl4 hA
 have e1 := atE_place hb hl4 hE
 refine ⟨(stepsL (piece l S C)).length, idxs (blanksOf (stepsL (piece l S C))) w ((stepsL (piece l S C)).length : Int) (edgesOf (stepsL (piece l S C))).length 0, hle, hE, ?_, ?_, ?_, hgood⟩
 ·unfold plc
  rw [Int.add_zero]
  exact e0
 ·exact e1
 ·have hw := wrapGo_idxs (edgesOf (stepsL (piece l S C))) (blanksOf (stepsL (piece l S C))) (S : Int) w (edgesOf (stepsL (piece l S C))).length 0 []
  have hmm : ((edgesOf (stepsL (piece l S C))).length : Int) - 1 = ((stepsL (piece l S C)).length : Int) := by clear e0 e1 hall hgood; omega
  rw [hmm, List.nil_append] at hw
  have : wrapsOf (piece l S C) (S : Int) w = _ := hw
  rw [this]
  apply List.map_congr_left
  intro c hc
  obtain ⟨c1, c2⟩ := hall _ 0 (Int.le_refl _) hgood c hc
  exact (H.hp c c1 c2).symm
theorem wraps_gt {l : List Int} (hb : Bytes l) (hl : l.length ≤ 4398046511103) (w : Int) (hw1 : 1 ≤ w) : ∀ (rs : List S127) (S b : Nat), LChain l (S : Int) rs → AtE l S b → ∀ y ∈ allWraps l w rs, (S : Int) < y := by
 have hl4 : l.length ≤ 4398046511104 := by omega
 intro rs
 induction rs with
 | nil => intro S b h; exact absurd h (by simp [LChain])
 | cons r rs ih =>
  intro S b h hA y hy
  obtain ⟨h0, h1, h2, h3⟩ := h
  obtain ⟨C, hC⟩ : ∃ C : Nat, r.f1 = (C : Int) := ⟨r.f1.toNat, by omega⟩
  have hSC : S ≤ C := by omega
  rw [hC] at h2
  have hone : wrapsOf (piece l r.f0.toNat r.f1.toNat) r.f0 w = wrapsOf (piece l S C) (S : Int) w := by rw [h0, hC, Int.toNat_natCast, Int.toNat_natCast]
  have hend : C = l.length ∨ (C < l.length ∧ rd l (C : Int) < 128) := by
   rcases h3 with ⟨_, h4, _⟩ | ⟨h3, _⟩
   ·left; omega
   ·obtain ⟨n, hn, hE⟩ := lend_of h3 (by omega)
    rw [hC, Int.toNat_natCast] at hE
    exact .inr ⟨hE.1, end_low hE.2.2.1⟩
  have hCl : C ≤ l.length := by
   rcases hend with h | h
   ·exact Nat.le_of_eq h
   ·exact Nat.le_of_lt h.1
  have hv : Vis l C := vis_low hb hl4 C hCl (hend.imp id (·.2))
  obtain ⟨m, L, k1, k2, k3, k4, k5, k6⟩ := line_breaks hb hl hSC hCl hv h2 hA w hw1
  unfold allWraps at hy
  rw [List.flatMap_cons, hone, k5] at hy
  rcases List.mem_append.1 hy with hy | hy
  ·obtain ⟨c, hc, rfl⟩ := List.mem_map.1 hy
   have hall : ∀ (L : List Int) (a : Int), 0 ≤ a → Good w (m : Int) a L → ∀ c ∈ L, 0 < c ∧ c ≤ (m : Int) := by
    intro L
    induction L with
    | nil => intro a _ _ c hc; cases hc
    | cons x t ih =>
     intro a ha hg c hc
     obtain ⟨g1, g2, g3, _, _, g6⟩ := hg
     rcases List.mem_cons.1 hc with rfl | hc
     ·omega
     ·exact ih x (by omega) g6 c hc
   obtain ⟨c1, c2⟩ := hall L 0 (Int.le_refl _) k6 c hc
   have := plc_lt hb hl4 b m k1 0 c (Int.le_refl _) c1 c2
   rw [k3] at this
   exact this
  ·rcases h3 with ⟨h3, _⟩ | ⟨h3, h4⟩
   ·rw [h3] at hy; cases hy
   ·obtain ⟨n, hn, hE⟩ := lend_of h3 (by omega)
    rw [hC, Int.toNat_natCast] at hE
    rw [hn] at h4
    obtain ⟨e1, e2, e3, e4, e5⟩ := hE
    have hA1 := atE_next hb hl4 k2 e1
    rw [(low_long hb hl4 C e1 (end_low e3)).2] at hA1
    rcases e5 with e5 | ⟨e5, e6, e7, e8⟩
    ·subst e5
     have := ih _ _ h4 hA1 y hy
     clear k3 k4 k5
     omega
    ·subst e5
     have hA2 := atE_next hb hl4 hA1 e6
     rw [(low_long hb hl4 (C + 1) e6 (end_low (.inl e8))).2] at hA2
     have := ih _ _ h4 hA2 y hy
     clear k3 k4 k5
     omega
theorem fit_lines {l : List Int} (hb : Bytes l) (hl : l.length ≤ 4398046511103) (w : Int) (hw1 : 1 ≤ w) (lw : List Int) (hlw : lw.length ≤ 4398046511104) : ∀ (rs : List S127) (i S b : Nat) (A : List Int), (allLines l).drop i = rs → LChain l (S : Int) rs → AtE l S b → lw = A ++ allWraps l w rs →
  Ev (fun k => galleylaw22_WordsFit.l0 k l w lw (A.length : Int) ((allLines l).map rowOf) (i : Int)) true := by
 have hl4 : l.length ≤ 4398046511104 := by omega
 have hal := allLines_length l
 intro rs
 induction rs with
 | nil => intro i S b A h0 h; exact absurd h (by simp [LChain])
 | cons r rs ih =>
  intro i S b A hd h hA hlwA
  obtain ⟨h0, h1, h2, h3⟩ := h
  have hi : i < (allLines l).length := by
   refine Nat.lt_of_not_le fun h => ?_
   rw [List.drop_of_length_le h] at hd
   cases hd
  have hlen0 : (allLines l).length - i = rs.length + 1 := by rw [← List.length_drop, hd]; rfl
  have hnn : rs.length = 0 → ¬ ((i + 1 : Nat) : Int) < (((allLines l).map rowOf).length : Int) := fun e => by rw [List.length_map]; omega
  clear hlen0
  have hd2 := hd
  rw [List.drop_eq_getElem_cons hi] at hd2
  obtain ⟨hr, hd3⟩ := List.cons.inj hd2
  have hiR : i < ((allLines l).map rowOf).length := by rw [List.length_map]; exact hi
  have hrd : rd_T78 ((allLines l).map rowOf) (i : Int) = rowOf r := by
   unfold rd_T78
   rw [List.getD_eq_getElem?_getD, Int.toNat_natCast, List.getElem?_map, List.getElem?_eq_getElem hi, hr]
   rfl
  obtain ⟨C, hC⟩ : ∃ C : Nat, r.f1 = (C : Int) := ⟨r.f1.toNat, by omega⟩
  have hSC : S ≤ C := by omega
  rw [hC] at h2
  have hone : wrapsOf (piece l r.f0.toNat r.f1.toNat) r.f0 w = wrapsOf (piece l S C) (S : Int) w := by rw [h0, hC, Int.toNat_natCast, Int.toNat_natCast]
  have hend : C = l.length ∨ (C < l.length ∧ rd l (C : Int) < 128) := by
   rcases h3 with ⟨_, h4, _⟩ | ⟨h3, _⟩
   ·left; omega
   ·obtain ⟨n, hn, hE⟩ := lend_of h3 (by omega)
    rw [hC, Int.toNat_natCast] at hE
    exact .inr ⟨hE.1, end_low hE.2.2.1⟩
  have hCl : C ≤ l.length := by
   rcases hend with h | h
   ·exact Nat.le_of_eq h
   ·exact Nat.le_of_lt h.1
  have hv : Vis l C := vis_low hb hl4 C hCl (hend.imp id (·.2))
  obtain ⟨m, L, k1, k2, k3, k4, k5, k6⟩ := line_breaks hb hl hSC hCl hv h2 hA w hw1
  have hsplit : allWraps l w (r :: rs) = L.map (plc l b) ++ allWraps l w rs := by
   unfold allWraps
   rw [List.flatMap_cons, hone, k5]
  rw [hsplit, ← List.append_assoc] at hlwA
  have ci : (i : Int) < (((allLines l).map rowOf).length : Int) := by omega
  have ci0 : 0 ≤ (i : Int) := by omega
  have hwi : wrap64 ((i : Int) + 1) = ((i + 1 : Nat) : Int) := by rw [wrap64_small (by omega) (by omega)]; omega
  have hm0 : (0 : Int) ≤ (m : Int) := by omega
  have hsl := stepsFrom_length (strOfNums l) 0
  rw [strOfNums_size] at hsl
  have hsl2 : (stepsL l).length ≤ l.length := hsl
  have hmm : m ≤ 4398046511103 := by clear k3 k4; omega
  have hed : ∀ c : Int, 0 ≤ c → c ≤ (m : Int) → Ev (fun k => step_Edge.f k l (plc l b c)) true := fun c hc0 hcm => by
   obtain ⟨p, e1, hAt⟩ := plc_at hb hl4 b m k1 c hc0 hcm
   rw [e1]
   exact edge_true hb hl4 p hAt.1 (atE_vis hb hl4 hAt)
  have hL0 : ((L.length + 1 : Nat) : Int) ≤ 4398046511110 := by
   have := congrArg List.length hlwA
   rw [List.length_append, List.length_append, List.length_map] at this
   omega
  have hrow0 : (rowOf r).f0 = plc l b 0 := by rw [k3]; exact h0
  have hrow1 : (rowOf r).f1 = plc l b (m : Int) := by rw [k4]; exact hC
  -- the next row
  have hnext : Ev (fun k => galleylaw22_WordsFit.l0 k l w lw ((A.length : Int) + (L.length : Int)) ((allLines l).map rowOf) (wrap64 ((i : Int) + 1))) true := by
   rw [hwi]
   have hAl : (A.length : Int) + (L.length : Int) = ((A ++ L.map (plc l b)).length : Int) := by rw [List.length_append, List.length_map]; omega
   rw [hAl]
   rcases h3 with ⟨h3, _⟩ | ⟨h3, h4⟩
   ·have hnn := hnn (by rw [h3]; rfl)
    have hx : (A ++ L.map (plc l b)).length = lw.length := by rw [hlwA, h3]; simp [allWraps]
    refine Ev.succ (Ev.pure true) (fun k => ?_)
    rw [galleylaw22_WordsFit.l0, if_neg hnn, hx]
    simp
   ·obtain ⟨n, hn, hE⟩ := lend_of h3 (by omega)
    rw [hC, Int.toNat_natCast] at hE
    rw [hn] at h4
    obtain ⟨e1, e2, e3, e4, e5⟩ := hE
    have hA1 := atE_next hb hl4 k2 e1
    rw [(low_long hb hl4 C e1 (end_low e3)).2] at hA1
    rcases e5 with e5 | ⟨e5, e6, e7, e8⟩
    ·subst e5
     exact ih (i + 1) _ _ _ hd3 h4 hA1 hlwA
    ·subst e5
     have hA2 := atE_next hb hl4 hA1 e6
     rw [(low_long hb hl4 (C + 1) e6 (end_low (.inl e8))).2] at hA2
     exact ih (i + 1) _ _ _ hd3 h4 hA2 hlwA
  have hB : ∀ y t, allWraps l w rs = y :: t → (rowOf r).f1 < y := by
   intro y t hy
   rw [show (rowOf r).f1 = (C : Int) from hC]
   rcases h3 with ⟨h3, _⟩ | ⟨h3, h4⟩
   ·rw [h3] at hy; cases hy
   ·obtain ⟨n, hn, hE⟩ := lend_of h3 (by omega)
    rw [hC, Int.toNat_natCast] at hE
    rw [hn] at h4
    obtain ⟨e1, e2, e3, e4, e5⟩ := hE
    have hA1 := atE_next hb hl4 k2 e1
    rw [(low_long hb hl4 C e1 (end_low e3)).2] at hA1
    rcases e5 with e5 | ⟨e5, e6, e7, e8⟩
    ·subst e5
     have := wraps_gt hb hl w hw1 rs _ _ h4 hA1 y (by rw [hy]; simp)
     clear k3 k4 k5 e3 hrow0 hrow1
     omega
    ·subst e5
     have hA2 := atE_next hb hl4 hA1 e6
     rw [(low_long hb hl4 (C + 1) e6 (end_low (.inl e8))).2] at hA2
     have := wraps_gt hb hl w hw1 rs _ _ h4 hA2 y (by rw [hy]; simp)
     clear k3 k4 k5 e3 hrow0 hrow1
     omega
  have hcs : ∀ c ∈ L ++ [(m : Int)], c ≤ (m : Int) := by
   have hall : ∀ (L : List Int) (a : Int), Good w (m : Int) a L → ∀ c ∈ L, c ≤ (m : Int) := by
    intro L
    induction L with
    | nil => intro a _ c hc; cases hc
    | cons x t ih =>
     intro a hg c hc
     obtain ⟨g1, g2, g3, _, _, g6⟩ := hg
     rcases List.mem_cons.1 hc with rfl | hc
     ·omega
     ·exact ih x g6 c hc
   intro c hc
   rcases List.mem_append.1 hc with hc | hc
   ·exact hall L 0 k6 c hc
   ·rw [List.mem_singleton.1 hc]; exact Int.le_refl _
  have h2l := fit_l2 w lw ((allLines l).map rowOf) (plc l b) m (plc_steps hb hl b m k1) ((A.length : Int) + (L.length : Int)) (i : Int) hnext (L ++ [(m : Int)]) 0 [] (Int.le_refl _) hm0 (gj_of w (m : Int) L 0 hm0 k6) hcs (by rw [List.length_append]; simp only [List.length_nil, List.length_singleton]; omega) (.inl rfl)
  have hlist : ([] : List Int) ++ ((0 : Int) :: (L ++ [(m : Int)])).map (plc l b) = (([] : List Int) ++ [plc l b 0]) ++ L.map (plc l b) ++ [plc l b (m : Int)] := by simp
  rw [hlist] at h2l
  have hone1 : ((([] : List Int).length : Int) + 1) = 1 := rfl
  rw [hone1] at h2l
  have h1l := fit_l1 hl w lw ((allLines l).map rowOf) (plc l b) m hmm (plc_lt hb hl4 b m k1) hed i (rowOf r) hiR hrd (Aside0.mk hrow1) hlw (allWraps l w rs) hB L A [] 0 hlwA k6 (Int.le_refl _) hm0 (Int.le_refl _) h2l
  refine Ev.succ h1l (fun k => ?_)
  rw [galleylaw22_WordsFit.l0, if_pos ci, if_pos ci0, hrd, hrow0]
  rfl
end Go.Proofs.YtijbkiajhicooaaDoor.PW
namespace Go.Proofs.YtijbkiajhicooaaDoor.Pure
open Go.Proofs.YtijbkiajhicooaaDoor.PW Go.RowKit
theorem WordsFit (l0 : List Int) (a1 : Int) (hl : l0.length ≤ 1048576) (hw : ∀ x ∈ l0, (Lit.int .u8 x).wf = true) (_ha1 : (Lit.int .i64 a1).wf = true) : ∃ k, galleylaw22_WordsFit.f k l0 a1 = some true := by
 have hb := bytes_of_wf hw
 have hl3 : l0.length ≤ 4398046511103 := by omega
 have hlen := wrapAt_length l0 a1
 refine Ev.some (Ev.bind (Ev.of_eq fun _ => rfl) ?_)
 refine Ev.bind (Ev.of_eq fun _ => own_some l0 hl3) ?_
 refine Ev.bind (words_wrap_ev hl3 a1) ?_
 unfold wrapAt at hlen ⊢
 by_cases h : a1 < 1 ∨ a1 > 65536
 ·simp only [if_pos h]
  refine Ev.of_eq fun _ => ?_
  rw [if_neg (by decide), if_pos (show ((([] : List Int).length : Nat) : Int) = 0 from rfl)]
  by_cases g : a1 < 1
  ·rw [if_pos g]
  ·rw [if_neg g, decide_eq_true (h.resolve_left g)]
 ·rw [if_neg h] at hlen
  have hlen : (allWraps l0 a1 (allLines l0)).length ≤ l0.length := hlen
  simp only [if_neg h, if_true]
  refine Ev.bind (rows07_ev hl3) ?_
  exact fit_lines hb hl3 a1 (by omega) _ (by omega) (allLines l0) 0 0 0 [] rfl (allLines_chain l0) (atE_zero l0) (by simp)
end Go.Proofs.YtijbkiajhicooaaDoor.Pure
namespace Go.Proofs.YtijbkiajhicooaaDoor.PW

end Go.Proofs.YtijbkiajhicooaaDoor.PW

