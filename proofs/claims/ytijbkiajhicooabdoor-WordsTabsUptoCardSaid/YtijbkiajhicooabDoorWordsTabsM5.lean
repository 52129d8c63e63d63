-- Written by merge.py, a program of this session's: PureDecode PureLines PureEdges PureSteps PureRunsT PureSlice PureColA PureColC PureFloor PureRows07 PureColB PureWordsAll PureWordsGo PureWordsColumns PureTabsA PureWordsTabs
import Derived.Lib.Bytes
import Derived.Test.YtijbkiajhicooabDoorWordsTabsM1
import Derived.Test.YtijbkiajhicooabDoorWordsTabsM4
import Derived.Test.YtijbkiajhicooabDoorWordsTabsM2
import Derived.Test.YtijbkiajhicooabDoorWordsTabsM3
namespace Go.Proofs.YtijbkiajhicooabDoor.PW
open Go.RowKit Go.Proofs.YtijbkiajhicooabDoorW.PrintWords Go.Proofs.YtijbkiajhicooabDoorW.PrintLast Go.Proofs.YtijbkiajhicooabDoorW.PrintMore
attribute [local go_sem] max2_int min2_int max_two min_two max_three min_three max_four min_four   -- for this text's walks alone
set_option linter.unusedVariables false
set_option linter.unusedSimpArgs false

def Bytes (l : List Int) : Prop := ∀ x ∈ l, 0 ≤ x ∧ x ≤ 255
theorem bytes_of_wf {l : List Int} (h : ∀ x ∈ l, (Lit.int .u8 x).wf = true) : Bytes l := fun x hx => by
 have := h x hx
 simp [Lit.wf] at this
 exact ⟨this.1, this.2⟩
theorem Bytes.drop {l : List Int} (h : Bytes l) (n : Nat) : Bytes (l.drop n) := fun x hx => h x (List.mem_of_mem_drop hx)
theorem rd_byte {l : List Int} (h : Bytes l) (p : Int) : 0 ≤ rd l p ∧ rd l p ≤ 255 := by
 unfold rd
 rw [List.getD_eq_getElem?_getD]
 cases hg : l[p.toNat]? with
 | none => exact ⟨Int.le_refl _, by decide⟩
 | some x => exact h x (List.mem_of_getElem? hg)
theorem wrap64_small {n : Int} (h0 : -9223372036854775808 ≤ n) (h1 : n ≤ 9223372036854775807) : wrap64 n = n := by unfold wrap64; omega
theorem atI_in {l : List Int} (hb : Bytes l) (p : Nat) (h : p < l.length) : atI l (p : Int) = l.getD p 0 ∧ 0 ≤ l.getD p 0 ∧ l.getD p 0 ≤ 255 := by
 have h1 := rd_byte hb (p : Int)
 have e : rd l (p : Int) = l.getD p 0 := by unfold rd; simp
 rw [e] at h1
 unfold atI
 rw [if_neg (by omega), e, wrap64_small (by omega) (by omega)]
 exact ⟨rfl, h1⟩
theorem atI_out (l : List Int) (p : Int) (h : p < 0 ∨ (l.length : Int) ≤ p) : atI l p = -1 := by
 unfold atI
 rw [if_pos (by omega)]
/-- The byte that decoding reads. -/
theorem getB {l : List Int} (hb : Bytes l) (p : Nat) (h : p < l.length) : (((strOfNums l).get! p).toNat : Int) = atI l (p : Int) := by
 obtain ⟨e, h0, h1⟩ := atI_in hb p h
 rw [e]
 have hg : l.getD p 0 = l[p] := by simp [List.getD, h]
 have : (strOfNums l).get! p = UInt8.ofNat (l[p]).toNat := by
  simp [ByteArray.get!, strOfNums, getElem!_def, h]
 rw [this, hg]
 rw [hg] at h0 h1
 simp
 omega
/-- Decoding, by the bytes at the place and behind it (-1: none). -/
def decV (x y z w : Int) : Int × Nat :=
 if x < 128 then (x, 1)
 else if x / 32 = 6 ∧ y / 64 = 2 then (if x % 32 * 64 + y % 64 ≥ 128 then (x % 32 * 64 + y % 64, 2) else (65533, 1))
 else if x / 16 = 14 ∧ y / 64 = 2 ∧ z / 64 = 2 then
  (if x % 16 * 4096 + y % 64 * 64 + z % 64 ≥ 2048 ∧ ¬ (55296 ≤ x % 16 * 4096 + y % 64 * 64 + z % 64 ∧ x % 16 * 4096 + y % 64 * 64 + z % 64 < 57344) then (x % 16 * 4096 + y % 64 * 64 + z % 64, 3) else (65533, 1))
 else if x / 8 = 30 ∧ y / 64 = 2 ∧ z / 64 = 2 ∧ w / 64 = 2 then
  (if x % 8 * 262144 + y % 64 * 4096 + z % 64 * 64 + w % 64 ≥ 65536 ∧ x % 8 * 262144 + y % 64 * 4096 + z % 64 * 64 + w % 64 ≤ 1114111 then (x % 8 * 262144 + y % 64 * 4096 + z % 64 * 64 + w % 64, 4) else (65533, 1))
 else (65533, 1)
theorem contB {l : List Int} (hb : Bytes l) (p : Nat) : (decide (p < (strOfNums l).size) && ((strOfNums l).get! p).toNat / 64 == 2) = decide (atI l (p : Int) / 64 = 2) := by
 rw [strOfNums_size]
 by_cases h : p < l.length
 ·have e := getB hb p h
  rw [decide_eq_true h, Bool.true_and, ← e]
  have : ((((strOfNums l).get! p).toNat : Int) / 64 = 2) ↔ (((strOfNums l).get! p).toNat / 64 = 2) := by omega
  rw [Bool.eq_iff_iff]
  simp only [beq_iff_eq, decide_eq_true_eq]
  exact this.symm
 ·rw [decide_eq_false h, Bool.false_and, atI_out l _ (by omega)]
  rfl
set_option maxRecDepth 100000 in
set_option maxHeartbeats 400000 in
theorem decode_int {l : List Int} (hb : Bytes l) (p : Nat) (h : p < l.length) :
  (((Utf8.decode (strOfNums l) p).1 : Int), (Utf8.decode (strOfNums l) p).2) = decV (atI l (p : Int)) (atI l (p + 1 : Nat)) (atI l (p + 2 : Nat)) (atI l (p + 3 : Nat)) := by
 have e0 := getB hb p h
 obtain ⟨_, x0, x1⟩ := atI_in hb p h
 rw [← (atI_in hb p h).1] at x0 x1
 have c1 := contB hb (p + 1)
 have c2 := contB hb (p + 2)
 have c3 := contB hb (p + 3)
 have ey : ∀ q, atI l (q : Nat) / 64 = 2 → (((strOfNums l).get! q).toNat : Int) = atI l (q : Nat) := fun q hq => by
  by_cases hl : q < l.length
  ·exact getB hb q hl
  ·rw [atI_out l _ (by omega)] at hq
   omega
 have e1 := ey (p + 1)
 have e2 := ey (p + 2)
 have e3 := ey (p + 3)
 unfold Utf8.decode decV
 simp only [Nat.add_zero]
 rw [c1, c2, c3]
 clear c1 c2 c3 ey
 obtain ⟨x, hx⟩ : ∃ x, atI l (p : Int) = x := ⟨_, rfl⟩
 obtain ⟨y, hy⟩ : ∃ x, atI l (p + 1 : Nat) = x := ⟨_, rfl⟩
 obtain ⟨z, hz⟩ : ∃ x, atI l (p + 2 : Nat) = x := ⟨_, rfl⟩
 obtain ⟨v, hv⟩ : ∃ x, atI l (p + 3 : Nat) = x := ⟨_, rfl⟩
 obtain ⟨b0, hb0⟩ : ∃ b, ((strOfNums l).get! p).toNat = b := ⟨_, rfl⟩
 obtain ⟨b1, hb1⟩ : ∃ b, ((strOfNums l).get! (p + 1)).toNat = b := ⟨_, rfl⟩
 obtain ⟨b2, hb2⟩ : ∃ b, ((strOfNums l).get! (p + 2)).toNat = b := ⟨_, rfl⟩
 obtain ⟨b3, hb3⟩ : ∃ b, ((strOfNums l).get! (p + 3)).toNat = b := ⟨_, rfl⟩
 rw [hx] at x0 x1 e0
 rw [hy] at e1
 rw [hz] at e2
 rw [hv] at e3
 rw [hb0] at e0
 rw [hb1] at e1
 rw [hb2] at e2
 rw [hb3] at e3
 simp only [hx, hy, hz, hv, hb0, hb1, hb2, hb3]
 clear hx hy hz hv hb0 hb1 hb2 hb3
 by_cases h0 : b0 < 128
 ·rw [if_pos h0, if_pos (by omega)]
  simp [e0]
 rw [if_neg h0, if_neg (show ¬ x < 128 by omega)]
 by_cases h1 : x / 32 = 6 ∧ y / 64 = 2
 ·have g1 := e1 h1.2
  rw [if_pos h1, if_pos (by simp; omega)]
  by_cases h2 : x % 32 * 64 + y % 64 ≥ 128
  ·rw [if_pos h2, if_pos (by omega)]
   simp
   omega
  ·rw [if_neg h2, if_neg (by omega)]
   simp [Utf8.runeError]
 rw [if_neg h1, if_neg (by simp; omega)]
 by_cases h3 : x / 16 = 14 ∧ y / 64 = 2 ∧ z / 64 = 2
 ·have g1 := e1 h3.2.1
  have g2 := e2 h3.2.2
  rw [if_pos h3, if_pos (by simp; omega)]
  by_cases h4 : x % 16 * 4096 + y % 64 * 64 + z % 64 ≥ 2048 ∧ ¬ (55296 ≤ x % 16 * 4096 + y % 64 * 64 + z % 64 ∧ x % 16 * 4096 + y % 64 * 64 + z % 64 < 57344)
  ·rw [if_pos h4, if_pos (by simp [Utf8.valid]; omega)]
   simp
   omega
  ·rw [if_neg h4, if_neg (by simp [Utf8.valid]; omega)]
   simp [Utf8.runeError]
 rw [if_neg h3, if_neg (by simp; omega)]
 by_cases h5 : x / 8 = 30 ∧ y / 64 = 2 ∧ z / 64 = 2 ∧ v / 64 = 2
 ·have g1 := e1 h5.2.1
  have g2 := e2 h5.2.2.1
  have g3 := e3 h5.2.2.2
  rw [if_pos h5, if_pos (by simp; omega)]
  by_cases h6 : x % 8 * 262144 + y % 64 * 4096 + z % 64 * 64 + v % 64 ≥ 65536 ∧ x % 8 * 262144 + y % 64 * 4096 + z % 64 * 64 + v % 64 ≤ 1114111
  ·rw [if_pos h6, if_pos (by simp [Utf8.valid]; omega)]
   simp
   omega
  ·rw [if_neg h6, if_neg (by simp [Utf8.valid]; omega)]
   simp [Utf8.runeError]
 rw [if_neg h5, if_neg (by simp; omega)]
 simp [Utf8.runeError]
def isOne (x : Int) : Prop := 0 ≤ x ∧ x ≤ 127
def isTwo (x y : Int) : Prop := 194 ≤ x ∧ x ≤ 223 ∧ 128 ≤ y ∧ y ≤ 191
def isThree (x y z : Int) : Prop := 128 ≤ z ∧ z ≤ 191 ∧ ((x = 224 ∧ 160 ≤ y ∧ y ≤ 191) ∨ (225 ≤ x ∧ x ≤ 236 ∧ 128 ≤ y ∧ y ≤ 191) ∨ (x = 237 ∧ 128 ≤ y ∧ y ≤ 159) ∨ (238 ≤ x ∧ x ≤ 239 ∧ 128 ≤ y ∧ y ≤ 191))
def isFour (x y z w : Int) : Prop := 128 ≤ z ∧ z ≤ 191 ∧ 128 ≤ w ∧ w ≤ 191 ∧ ((x = 240 ∧ 144 ≤ y ∧ y ≤ 191) ∨ (241 ≤ x ∧ x ≤ 243 ∧ 128 ≤ y ∧ y ≤ 191) ∨ (x = 244 ∧ 128 ≤ y ∧ y ≤ 143))
theorem longOf_cases (x y z w : Int) : (isOne x ∧ longOf x y z w = 1) ∨ (isTwo x y ∧ longOf x y z w = 2) ∨ (isThree x y z ∧ longOf x y z w = 3) ∨ (isFour x y z w ∧ longOf x y z w = 4) ∨
  (¬ isOne x ∧ ¬ isTwo x y ∧ ¬ isThree x y z ∧ ¬ isFour x y z w ∧ longOf x y z w = 0) := by
 have e1 : (inB x 0 127 = true) ↔ isOne x := by simp [inB, isOne]
 have e2 : (inB x 194 223 && inB y 128 191) = true ↔ isTwo x y := by simp [inB, isTwo]; omega
 have e3 : (inB z 128 191 && three x y) = true ↔ isThree x y z := by simp [inB, isThree, three]; omega
 have e4 : (inB z 128 191 && inB w 128 191 && four x y) = true ↔ isFour x y z w := by simp [inB, isFour, four]; omega
 unfold longOf
 by_cases h1 : isOne x
 ·exact .inl ⟨h1, by rw [if_pos (e1.2 h1)]⟩
 rw [if_neg (fun h => h1 (e1.1 h))]
 by_cases h2 : isTwo x y
 ·exact .inr (.inl ⟨h2, by rw [if_pos (e2.2 h2)]⟩)
 rw [if_neg (fun h => h2 (e2.1 h))]
 by_cases h3 : isThree x y z
 ·exact .inr (.inr (.inl ⟨h3, by rw [if_pos (e3.2 h3)]⟩))
 rw [if_neg (fun h => h3 (e3.1 h))]
 by_cases h4 : isFour x y z w
 ·exact .inr (.inr (.inr (.inl ⟨h4, by rw [if_pos (e4.2 h4)]⟩)))
 rw [if_neg (fun h => h4 (e4.1 h))]
 exact .inr (.inr (.inr (.inr ⟨h1, h2, h3, h4, rfl⟩)))
/-- The rune of an encoding. -/
def runeV (x y z w : Int) : Int := if longOf x y z w = 1 then x else if longOf x y z w = 2 then x % 32 * 64 + y % 64 else if longOf x y z w = 3 then x % 16 * 4096 + y % 64 * 64 + z % 64 else x % 8 * 262144 + y % 64 * 4096 + z % 64 * 64 + w % 64
theorem decV_long (x y z w : Int) (hx0 : 0 ≤ x) (hx1 : x ≤ 255) (hy : y ≤ 255) (hz : z ≤ 255) (hw : w ≤ 255) (hy0 : -1 ≤ y) (hz0 : -1 ≤ z) (hw0 : -1 ≤ w) :
  (longOf x y z w = 0 → decV x y z w = (65533, 1) ∧ ¬ (x = 239 ∧ y = 191 ∧ z = 189)) ∧
  (longOf x y z w ≠ 0 → decV x y z w = (runeV x y z w, (longOf x y z w).toNat) ∧ (runeV x y z w = 65533 ↔ (x = 239 ∧ y = 191 ∧ z = 189))) := by
 rcases longOf_cases x y z w with ⟨h, e⟩ | ⟨h, e⟩ | ⟨h, e⟩ | ⟨h, e⟩ | ⟨h1, h2, h3, h4, e⟩
 ·refine ⟨fun h0 => by omega, fun _ => ?_⟩
  unfold isOne at h
  have hr : runeV x y z w = x := by simp [runeV, e]
  rw [hr, e]
  unfold decV
  rw [if_pos (by omega)]
  exact ⟨rfl, by omega⟩
 ·refine ⟨fun h0 => by omega, fun _ => ?_⟩
  unfold isTwo at h
  have hr : runeV x y z w = x % 32 * 64 + y % 64 := by simp [runeV, e]
  rw [hr, e]
  unfold decV
  rw [if_neg (by omega), if_pos (by omega), if_pos (by omega)]
  exact ⟨rfl, by omega⟩
 ·refine ⟨fun h0 => by omega, fun _ => ?_⟩
  unfold isThree at h
  have hr : runeV x y z w = x % 16 * 4096 + y % 64 * 64 + z % 64 := by simp [runeV, e]
  rw [hr, e]
  unfold decV
  rw [if_neg (by omega), if_neg (by omega), if_pos (by omega), if_pos (by omega)]
  exact ⟨rfl, by omega⟩
 ·refine ⟨fun h0 => by omega, fun _ => ?_⟩
  unfold isFour at h
  have hr : runeV x y z w = x % 8 * 262144 + y % 64 * 4096 + z % 64 * 64 + w % 64 := by simp [runeV, e]
  rw [hr, e]
  unfold decV
  rw [if_neg (by omega), if_neg (by omega), if_neg (by omega), if_pos (by omega), if_pos (by omega)]
  exact ⟨rfl, by omega⟩
 ·refine ⟨fun _ => ?_, fun h0 => absurd e h0⟩
  unfold isOne at h1
  unfold isTwo at h2
  unfold isThree at h3
  unfold isFour at h4
  refine ⟨?_, by omega⟩
  unfold decV
  rw [if_neg (by omega)]
  by_cases g1 : x / 32 = 6 ∧ y / 64 = 2
  ·rw [if_pos g1, if_neg (by omega)]
  rw [if_neg g1]
  by_cases g2 : x / 16 = 14 ∧ y / 64 = 2 ∧ z / 64 = 2
  ·rw [if_pos g2, if_neg (by omega)]
  rw [if_neg g2]
  by_cases g3 : x / 8 = 30 ∧ y / 64 = 2 ∧ z / 64 = 2 ∧ w / 64 = 2
  ·rw [if_pos g3, if_neg (by omega)]
  rw [if_neg g3]
theorem strOfNums_drop (l : List Int) (p : Nat) : (strOfNums l).extract p (strOfNums l).size = strOfNums (l.drop p) := by
 apply ByteArray.ext
 rw [ByteArray.data_extract]
 apply Array.ext'
 rw [Array.toList_extract, strOfNums_size]
 simp only [strOfNums, List.extract_eq_take_drop]
 rw [List.map_drop]
 apply List.take_of_length_le
 simp
theorem atI_drop (l : List Int) (p q : Nat) : atI (l.drop p) (q : Int) = atI l (p + q : Nat) := by
 unfold atI rd
 simp only [List.length_drop, Int.toNat_natCast, List.getD_eq_getElem?_getD, List.getElem?_drop]
 by_cases h : p + q < l.length
 ·rw [if_neg (by omega), if_neg (by omega)]
 ·rw [if_pos (by omega), if_pos (by omega)]
theorem encode_size (r : Int) (h0 : 0 ≤ r) (h1 : r < 55296 ∨ (57344 ≤ r ∧ r ≤ 1114111)) : (Utf8.encode r).size = if r < 128 then 1 else if r < 2048 then 2 else if r < 65536 then 3 else 4 := by
 have hv : Utf8.valid r = true := by simp [Utf8.valid]; omega
 unfold Utf8.encode
 simp only [hv, if_true]
 by_cases g1 : r < 128
 ·rw [if_pos g1, if_pos (by omega)]; rfl
 rw [if_neg g1, if_neg (by omega)]
 by_cases g2 : r < 2048
 ·rw [if_pos g2, if_pos (by omega)]; rfl
 rw [if_neg g2, if_neg (by omega)]
 by_cases g3 : r < 65536
 ·rw [if_pos g3, if_pos (by omega)]; rfl
 rw [if_neg g3, if_neg (by omega)]; rfl
theorem runeV_size (x y z w : Int) (hx0 : 0 ≤ x) (hx1 : x ≤ 255) (hy : y ≤ 255) (hz : z ≤ 255) (hw : w ≤ 255) (h : longOf x y z w ≠ 0) : ((Utf8.encode (runeV x y z w)).size : Int) = longOf x y z w := by
 rcases longOf_cases x y z w with ⟨h, e⟩ | ⟨h, e⟩ | ⟨h, e⟩ | ⟨h, e⟩ | ⟨h1, h2, h3, h4, e⟩
 ·have hr : runeV x y z w = x := by simp [runeV, e]
  unfold isOne at h
  rw [hr, e, encode_size _ (by omega) (by omega), if_pos (by omega)]; rfl
 ·have hr : runeV x y z w = x % 32 * 64 + y % 64 := by simp [runeV, e]
  unfold isTwo at h
  rw [hr, e, encode_size _ (by omega) (by omega), if_neg (by omega), if_pos (by omega)]; rfl
 ·have hr : runeV x y z w = x % 16 * 4096 + y % 64 * 64 + z % 64 := by simp [runeV, e]
  unfold isThree at h
  rw [hr, e, encode_size _ (by omega) (by omega), if_neg (by omega), if_neg (by omega), if_pos (by omega)]; rfl
 ·have hr : runeV x y z w = x % 8 * 262144 + y % 64 * 4096 + z % 64 * 64 + w % 64 := by simp [runeV, e]
  unfold isFour at h
  rw [hr, e, encode_size _ (by omega) (by omega), if_neg (by omega), if_neg (by omega), if_neg (by omega)]; rfl
 ·exact absurd e h
theorem atI_range {l : List Int} (hb : Bytes l) (p : Nat) : -1 ≤ atI l (p : Int) ∧ atI l (p : Int) ≤ 255 := by
 by_cases h : p < l.length
 ·obtain ⟨e, h0, h1⟩ := atI_in hb p h
  rw [e]; omega
 ·rw [atI_out l _ (by omega)]; omega
theorem hasFD_int {l : List Int} (hb : Bytes l) : hasFD (strOfNums l) = true ↔ (atI l (0 : Nat) = 239 ∧ atI l (1 : Nat) = 191 ∧ atI l (2 : Nat) = 189) := by
 match l, hb with
 | [], _ => simp [hasFD, strOfNums_size, atI]
 | [a], _ => simp [hasFD, strOfNums_size, atI]
 | [a, b], _ => simp [hasFD, strOfNums_size, atI]
 | a :: b :: c :: r, hb =>
  have ha := hb a (by simp)
  have hb' := hb b (by simp)
  have hc := hb c (by simp)
  have e0 := (atI_in hb 0 (by simp)).1
  have e1 := (atI_in hb 1 (by simp)).1
  have e2 := (atI_in hb 2 (by simp)).1
  rw [e0, e1, e2]
  have hx : ((strOfNums (a :: b :: c :: r)).extract 0 3).toList = [UInt8.ofNat a.toNat, UInt8.ofNat b.toNat, UInt8.ofNat c.toNat] := by
   have he : (strOfNums (a :: b :: c :: r)).extract 0 3 = strOfNums [a, b, c] := by
    apply ByteArray.ext
    rw [ByteArray.data_extract]
    apply Array.ext'
    rw [Array.toList_extract]
    simp [strOfNums]
   rw [he, Lib.strOfNums_toList]
   rfl
  have u : ∀ (n : Int) (k : Nat), 0 ≤ n → n ≤ 255 → k ≤ 255 → ((UInt8.ofNat n.toNat = UInt8.ofNat k) ↔ n = (k : Int)) := by
   intro n k h0 h1 h2
   rw [← UInt8.toNat_inj]
   simp
   omega
  unfold hasFD
  rw [hx, strOfNums_size]
  have u0 := u a 239 ha.1 ha.2 (by decide)
  have u1 := u b 191 hb'.1 hb'.2 (by decide)
  have u2 := u c 189 hc.1 hc.2 (by decide)
  simp only [beq_iff_eq, Bool.and_eq_true, decide_eq_true_eq, List.cons.injEq, and_true]
  have v0 : (UInt8.ofNat a.toNat = (239 : UInt8)) ↔ a = 239 := u0
  have v1 : (UInt8.ofNat b.toNat = (191 : UInt8)) ↔ b = 191 := u1
  have v2 : (UInt8.ofNat c.toNat = (189 : UInt8)) ↔ c = 189 := u2
  rw [v0, v1, v2]
  simp
/-- The step at a place, by the table. -/
def ofL (l : List Int) (p : Nat) : Int × Int × Bool :=
 if longAt l (p : Int) = 0 then (65533, 1, false) else (runeV (atI l (p : Int)) (atI l (p + 1 : Nat)) (atI l (p + 2 : Nat)) (atI l (p + 3 : Nat)), longAt l (p : Int), true)
theorem longAt_nat (l : List Int) (p : Nat) (hp : p ≤ 4611686018427387904) : longAt l (p : Int) = longOf (atI l (p : Int)) (atI l (p + 1 : Nat)) (atI l (p + 2 : Nat)) (atI l (p + 3 : Nat)) := by
 unfold longAt
 rw [wrap64_small (by omega) (by omega), wrap64_small (by omega) (by omega), wrap64_small (by omega) (by omega)]
 rfl
theorem first_of {l : List Int} (hb : Bytes l) (p : Nat) (hp : p < l.length) (hl : l.length ≤ 4611686018427387904) :
  firstOf ((strOfNums l).extract p (strOfNums l).size) = ofL l p ∧ ((Utf8.decode (strOfNums l) p).2 : Int) = (ofL l p).2.1 := by
 have d1 := decode_int hb p hp
 have d2 := decode_int (hb.drop p) 0 (by simp; omega)
 have r0 := atI_range hb p
 have r1 := atI_range hb (p + 1)
 have r2 := atI_range hb (p + 2)
 have r3 := atI_range hb (p + 3)
 have hx0 : 0 ≤ atI l (p : Int) := by rw [(atI_in hb p hp).1]; exact (atI_in hb p hp).2.1
 have q0 := atI_drop l p 0
 have q1 := atI_drop l p 1
 have q2 := atI_drop l p 2
 have q3 := atI_drop l p 3
 have hfd := hasFD_int (hb.drop p)
 simp only [Nat.zero_add, Nat.add_zero] at d2 q0 q1 q2 q3
 rw [q0, q1, q2, q3] at d2
 rw [q0, q1, q2] at hfd
 have hlong := longAt_nat l p (by omega)
 rw [strOfNums_drop]
 unfold ofL firstOf
 rw [hlong, strOfNums_size, if_neg (by simp; omega)]
 have hD := decV_long (atI l (p : Int)) (atI l (p + 1 : Nat)) (atI l (p + 2 : Nat)) (atI l (p + 3 : Nat)) hx0 r0.2 r1.2 r2.2 r3.2 r1.1 r2.1 r3.1
 have hS := runeV_size (atI l (p : Int)) (atI l (p + 1 : Nat)) (atI l (p + 2 : Nat)) (atI l (p + 3 : Nat)) hx0 r0.2 r1.2 r2.2 r3.2
 obtain ⟨x, hx⟩ : ∃ x, atI l (p : Int) = x := ⟨_, rfl⟩
 obtain ⟨y, hy⟩ : ∃ x, atI l (p + 1 : Nat) = x := ⟨_, rfl⟩
 obtain ⟨z, hz⟩ : ∃ x, atI l (p + 2 : Nat) = x := ⟨_, rfl⟩
 obtain ⟨v, hv⟩ : ∃ x, atI l (p + 3 : Nat) = x := ⟨_, rfl⟩
 simp only [hx, hy, hz, hv] at d1 d2 hfd hD hS ⊢
 clear q0 q1 q2 q3 hx hy hz hv hlong r0 r1 r2 r3 hx0
 by_cases h0 : longOf x y z v = 0
 ·obtain ⟨hd, hn⟩ := hD.1 h0
  rw [hd] at d1 d2
  simp only [Prod.mk.injEq] at d1 d2
  have e1 : (Utf8.decode (strOfNums (l.drop p)) 0).1 = 65533 := by omega
  rw [if_pos h0, if_pos e1, if_neg (fun h => hn (hfd.1 h))]
  exact ⟨rfl, by rw [d1.2]; rfl⟩
 ·obtain ⟨hd, hr⟩ := hD.2 h0
  have hs := hS h0
  rw [hd] at d1 d2
  simp only [Prod.mk.injEq] at d1 d2
  have hpos : 0 ≤ longOf x y z v := by rw [← hs]; omega
  rw [if_neg h0]
  by_cases hr3 : runeV x y z v = 65533
  ·have e1 : (Utf8.decode (strOfNums (l.drop p)) 0).1 = 65533 := by omega
   rw [if_pos e1, if_pos (hfd.2 (hr.1 hr3)), hr3]
   have hl3 : longOf x y z v = 3 := by
    rw [hr3] at hs
    rw [← hs]
    rfl
   rw [hl3] at d1 ⊢
   exact ⟨rfl, by rw [d1.2]; rfl⟩
  ·have e1 : ¬ (Utf8.decode (strOfNums (l.drop p)) 0).1 = 65533 := by omega
   rw [if_neg e1, d2.1, hs]
   refine ⟨rfl, ?_⟩
   show ((Utf8.decode (strOfNums l) p).2 : Int) = longOf x y z v
   rw [d1.2]
   omega

end Go.Proofs.YtijbkiajhicooabDoor.PW

namespace Go.Proofs.YtijbkiajhicooabDoor.PW
open Go.RowKit Go.Proofs.YtijbkiajhicooabDoorW.PrintWords Go.Proofs.YtijbkiajhicooabDoorW.PrintLast Go.Proofs.YtijbkiajhicooabDoorW.PrintMore
attribute [local go_sem] max2_int min2_int max_two min_two max_three min_three max_four min_four   -- for this text's walks alone
set_option linter.unusedVariables false
set_option linter.unusedSimpArgs false

/-- No line end stands from a on and ahead of b. -/
def PlainTo (l : List Int) (a b : Int) : Prop := ∀ q : Int, a ≤ q → q < b → rd l q ≠ 10 ∧ rd l q ≠ 13
/-- A line that is not the last one ends with a line end. -/
def EndsAt (l : List Int) (r : S153) : Prop :=
 (r.f1 < (l.length : Int) ∧ rd l r.f1 = 10 ∧ r.f2 = r.f1 ∧ r.f3 = r.f1 + 1) ∨
 (r.f1 + 1 < (l.length : Int) ∧ rd l r.f1 = 13 ∧ rd l (r.f1 + 1) = 10 ∧ r.f2 = r.f1 + 1 ∧ r.f3 = r.f1 + 2) ∨
 (r.f1 < (l.length : Int) ∧ rd l r.f1 = 13 ∧ ¬ (r.f1 + 1 < (l.length : Int) ∧ rd l (r.f1 + 1) = 10) ∧ r.f2 = r.f1 ∧ r.f3 = r.f1 + 1)
/-- Lines from a place on. -/
def LChain (l : List Int) : Int → List S153 → Prop
 | _, [] => False
 | a, r :: rs => r.f0 = a ∧ a ≤ r.f1 ∧ PlainTo l a r.f1 ∧ ((rs = [] ∧ r.f1 = (l.length : Int) ∧ r.f2 = (l.length : Int) ∧ r.f3 = (l.length : Int)) ∨ (EndsAt l r ∧ LChain l r.f3 rs))
theorem lineAt_out (l : List Int) : ∀ (k : Nat) (start i : Int) (out : List S153), lineAt l k start i out = out ++ lineAt l k start i [] := by
 intro k
 induction k with
 | zero => intro start i out; simp [lineAt]
 | succ k ih =>
  intro start i out
  simp only [lineAt]
  by_cases h : i < (l.length : Int)
  ·rw [if_pos h, if_pos h]
   by_cases h1 : rd l i = 10
   ·rw [if_pos h1, if_pos h1, ih _ _ (out ++ _), ih _ _ ([] ++ _)]
    simp
   ·rw [if_neg h1, if_neg h1]
    by_cases h2 : rd l i = 13
    ·rw [if_pos h2, if_pos h2]
     by_cases h3 : i + 1 < (l.length : Int) ∧ rd l (i + 1) = 10
     ·rw [if_pos h3, if_pos h3, ih _ _ (out ++ _), ih _ _ ([] ++ _)]
      simp
     ·rw [if_neg h3, if_neg h3, ih _ _ (out ++ _), ih _ _ ([] ++ _)]
      simp
    ·rw [if_neg h2, if_neg h2]
     exact ih _ _ out
  ·rw [if_neg h, if_neg h]
   simp
theorem lineAt_chain (l : List Int) : ∀ (k : Nat) (start i : Int), 0 ≤ start → start ≤ i → i ≤ (l.length : Int) → (l.length : Int) - i < k → PlainTo l start i → LChain l start (lineAt l k start i []) := by
 intro k
 induction k with
 | zero => intro start i h0 h1 h2 h3; omega
 | succ k ih =>
  intro start i h0 h1 h2 h3 hp
  simp only [lineAt]
  by_cases h : i < (l.length : Int)
  ·rw [if_pos h]
   by_cases g1 : rd l i = 10
   ·rw [if_pos g1, lineAt_out]
    refine ⟨rfl, h1, hp, .inr ⟨.inl ⟨h, g1, rfl, rfl⟩, ih (i + 1) (i + 1) (by omega) (Int.le_refl _) (by omega) (by omega) (fun q a b => by omega)⟩⟩
   ·rw [if_neg g1]
    by_cases g2 : rd l i = 13
    ·rw [if_pos g2]
     by_cases g3 : i + 1 < (l.length : Int) ∧ rd l (i + 1) = 10
     ·rw [if_pos g3, lineAt_out]
      exact ⟨rfl, h1, hp, .inr ⟨.inr (.inl ⟨g3.1, g2, g3.2, rfl, rfl⟩), ih (i + 2) (i + 2) (by omega) (Int.le_refl _) (by omega) (by omega) (fun q a b => by omega)⟩⟩
     ·rw [if_neg g3, lineAt_out]
      exact ⟨rfl, h1, hp, .inr ⟨.inr (.inr ⟨h, g2, g3, rfl, rfl⟩), ih (i + 1) (i + 1) (by omega) (Int.le_refl _) (by omega) (by omega) (fun q a b => by omega)⟩⟩
    ·rw [if_neg g2]
     refine ih start (i + 1) h0 (by omega) (by omega) (by omega) (fun q a b => ?_)
     by_cases e : q = i
     ·rw [e]; exact ⟨g1, g2⟩
     ·exact hp q a (by omega)
  ·rw [if_neg h]
   obtain rfl : i = (l.length : Int) := by omega
   exact ⟨rfl, h1, hp, .inl ⟨rfl, rfl, rfl, rfl⟩⟩
theorem allLines_chain (l : List Int) : LChain l 0 (allLines l) :=
 lineAt_chain l _ 0 0 (Int.le_refl _) (Int.le_refl _) (by omega) (by omega) (fun q a b => by omega)

end Go.Proofs.YtijbkiajhicooabDoor.PW

namespace Go.Proofs.YtijbkiajhicooabDoor.PW
open Go.RowKit Go.Proofs.YtijbkiajhicooabDoorW.PrintWords Go.Proofs.YtijbkiajhicooabDoorW.PrintLast Go.Proofs.YtijbkiajhicooabDoorW.PrintMore
attribute [local go_sem] max2_int min2_int max_two min_two max_three min_three max_four min_four   -- for this text's walks alone
set_option linter.unusedVariables false
set_option linter.unusedSimpArgs false

def Ev {β : Type} (g : Nat → Option β) (v : β) : Prop := ∃ K, ∀ k, K ≤ k → g k = some v
theorem Ev.pure {β : Type} (v : β) : Ev (fun _ => some v) v := ⟨0, fun _ _ => rfl⟩
theorem Ev.of_eq {β : Type} {g : Nat → Option β} {v : β} (h : ∀ k, g k = some v) : Ev g v := ⟨0, fun k _ => h k⟩
theorem Ev.bind {α β : Type} {g : Nat → Option α} {h : Nat → α → Option β} {v : α} {u : β} (hg : Ev g v) (hh : Ev (fun k => h k v) u) : Ev (fun k => (g k).bind (h k)) u := by
 obtain ⟨K, hK⟩ := hg
 obtain ⟨M, hM⟩ := hh
 refine ⟨max K M, fun k hk => ?_⟩
 show (g k).bind (h k) = some u
 rw [hK k (by omega)]
 exact hM k (by omega)
theorem Ev.succ {β : Type} {g h : Nat → Option β} {v : β} (hh : Ev h v) (e : ∀ k, g (k + 1) = h k) : Ev g v := by
 obtain ⟨K, hK⟩ := hh
 refine ⟨K + 1, fun k hk => ?_⟩
 obtain ⟨m, rfl⟩ : ∃ m, k = m + 1 := ⟨k - 1, by omega⟩
 rw [e]
 exact hK m (by omega)
theorem Ev.some {β : Type} {g : Nat → Option β} {v : β} (h : Ev g v) : ∃ k, g k = some v := by
 obtain ⟨K, hK⟩ := h
 exact ⟨K, hK K (Nat.le_refl _)⟩
/-- Does an encoding begin ahead of the place and end behind it? -/
def insideB (l : List Int) (p : Nat) : Bool :=
 (decide (1 ≤ p) && decide (longAt l ((p - 1 : Nat) : Int) > 1)) || (decide (2 ≤ p) && decide (longAt l ((p - 2 : Nat) : Int) > 2)) || (decide (3 ≤ p) && decide (longAt l ((p - 3 : Nat) : Int) > 3))
end Go.Proofs.YtijbkiajhicooabDoor.PW

namespace Go.Proofs.YtijbkiajhicooabDoor.PW
open Go.RowKit Go.Proofs.YtijbkiajhicooabDoorW.PrintWords Go.Proofs.YtijbkiajhicooabDoorW.PrintLast Go.Proofs.YtijbkiajhicooabDoorW.PrintMore
attribute [local go_sem] max2_int min2_int max_two min_two max_three min_three max_four min_four   -- for this text's walks alone
set_option linter.unusedVariables false
set_option linter.unusedSimpArgs false

/-- How far the step at a place goes. -/
def widL (l : List Int) (p : Nat) : Nat := if longAt l (p : Int) = 0 then 1 else (longAt l (p : Int)).toNat
theorem longAt_facts {l : List Int} (hb : Bytes l) (p : Nat) (hl : l.length ≤ 4398046511104) (hp : p ≤ l.length) :
  0 ≤ longAt l (p : Int) ∧ longAt l (p : Int) ≤ 4 ∧ (0 < longAt l (p : Int) → p + (longAt l (p : Int)).toNat ≤ l.length) ∧
  (∀ j : Nat, 1 ≤ j → (j : Int) < longAt l (p : Int) → 128 ≤ atI l (p + j : Nat) ∧ atI l (p + j : Nat) ≤ 191) ∧ (128 ≤ atI l (p : Int) ∧ atI l (p : Int) ≤ 191 → longAt l (p : Int) = 0) := by
 have hlong := longAt_nat l p (by omega)
 have r1 : 0 ≤ atI l (p + 1 : Nat) → p + 1 < l.length := fun h => by
  by_cases g : p + 1 < l.length
  ·exact g
  ·rw [atI_out l _ (by omega)] at h; omega
 have r2 : 0 ≤ atI l (p + 2 : Nat) → p + 2 < l.length := fun h => by
  by_cases g : p + 2 < l.length
  ·exact g
  ·rw [atI_out l _ (by omega)] at h; omega
 have r3 : 0 ≤ atI l (p + 3 : Nat) → p + 3 < l.length := fun h => by
  by_cases g : p + 3 < l.length
  ·exact g
  ·rw [atI_out l _ (by omega)] at h; omega
 have r0 : 0 ≤ atI l (p : Int) → p < l.length := fun h => by
  by_cases g : p < l.length
  ·exact g
  ·rw [atI_out l _ (by omega)] at h; omega
 have sp : ∀ j : Nat, 1 ≤ j → (j : Int) < 4 → j = 1 ∨ j = 2 ∨ j = 3 := fun j h1 h2 => by omega
 rw [hlong]
 rcases longOf_cases (atI l (p : Int)) (atI l (p + 1 : Nat)) (atI l (p + 2 : Nat)) (atI l (p + 3 : Nat)) with ⟨h, e⟩ | ⟨h, e⟩ | ⟨h, e⟩ | ⟨h, e⟩ | ⟨h1, h2, h3, h4, e⟩
 ·unfold isOne at h
  rw [e]
  exact ⟨by omega, by omega, fun _ => by have := r0 (by omega); simp; omega, fun j h1 h2 => by omega, fun g => by omega⟩
 ·unfold isTwo at h
  rw [e]
  refine ⟨by omega, by omega, fun _ => by have := r1 (by omega); simp; omega, fun j h1 h2 => ?_, fun g => by omega⟩
  obtain rfl : j = 1 := by omega
  omega
 ·unfold isThree at h
  rw [e]
  refine ⟨by omega, by omega, fun _ => by have := r2 (by omega); simp; omega, fun j h1 h2 => ?_, fun g => by omega⟩
  rcases (show j = 1 ∨ j = 2 by omega) with rfl | rfl
  ·omega
  ·omega
 ·unfold isFour at h
  rw [e]
  refine ⟨by omega, by omega, fun _ => by have := r3 (by omega); simp; omega, fun j h1 h2 => ?_, fun g => by omega⟩
  rcases sp j h1 h2 with rfl | rfl | rfl
  ·omega
  ·omega
  ·omega
 ·rw [e]
  exact ⟨by omega, by omega, fun h => by omega, fun j h1 h2 => by omega, fun _ => rfl⟩
theorem widL_pos {l : List Int} (hb : Bytes l) (p : Nat) (hl : l.length ≤ 4398046511104) (hp : p < l.length) : 1 ≤ widL l p ∧ widL l p ≤ 4 ∧ p + widL l p ≤ l.length := by
 obtain ⟨h0, h1, h2, _, _⟩ := longAt_facts hb p hl (by omega)
 unfold widL
 by_cases h : longAt l (p : Int) = 0
 ·rw [if_pos h]; omega
 ·rw [if_neg h]
  have := h2 (by omega)
  omega
/-- A place where a step begins: no encoding reaches over it. -/
def Vis (l : List Int) (p : Nat) : Prop := ∀ j : Nat, 1 ≤ j → j ≤ 3 → j ≤ p → longAt l ((p - j : Nat) : Int) ≤ j
theorem inside_vis {l : List Int} {p : Nat} (h : Vis l p) : insideB l p = false := by
 unfold insideB
 have h1 := h 1 (by omega) (by omega)
 have h2 := h 2 (by omega) (by omega)
 have h3 := h 3 (by omega) (by omega)
 by_cases g1 : 1 ≤ p
 ·have := h1 g1
  by_cases g2 : 2 ≤ p
  ·have := h2 g2
   by_cases g3 : 3 ≤ p
   ·have := h3 g3
    simp; omega
   ·simp; omega
  ·simp; omega
 ·simp; omega
theorem vis_next {l : List Int} (hb : Bytes l) {p : Nat} (hl : l.length ≤ 4398046511104) (hp : p < l.length) (h : Vis l p) : Vis l (p + widL l p) := by
 intro j j1 j3 jp
 obtain ⟨h0, h4, h2, hc, _⟩ := longAt_facts hb p hl (by omega)
 obtain ⟨w1, w4, wl⟩ := widL_pos hb p hl hp
 by_cases c1 : j = widL l p
 ·rw [show p + widL l p - j = p by omega]
  rw [c1]
  unfold widL
  by_cases g : longAt l (p : Int) = 0
  ·rw [if_pos g]; omega
  ·rw [if_neg g]; omega
 ·by_cases c2 : j < widL l p
  ·obtain ⟨i, hi⟩ : ∃ i, widL l p - j = i := ⟨_, rfl⟩
   have hlt : (i : Int) < longAt l (p : Int) := by
    unfold widL at hi c2
    by_cases g : longAt l (p : Int) = 0
    ·rw [if_pos g] at c2; omega
    ·rw [if_neg g] at hi; omega
   have hcc := hc i (by omega) hlt
   have hz := (longAt_facts hb (p + i) hl (by omega)).2.2.2.2 hcc
   rw [show p + widL l p - j = p + i by omega, hz]
   omega
  ·have := h (j - widL l p) (by omega) (by omega) (by omega)
   rw [show p + widL l p - j = p - (j - widL l p) by omega]
   omega
theorem vis_zero (l : List Int) : Vis l 0 := fun j h1 _ h3 => by omega
theorem inside_step {l : List Int} (hb : Bytes l) {p : Nat} (hl : l.length ≤ 4398046511104) (hp : p < l.length) (j : Nat) (h1 : 1 ≤ j) (h2 : j < widL l p) : insideB l (p + j) = true := by
 obtain ⟨h0, h4, _, _, _⟩ := longAt_facts hb p hl (by omega)
 obtain ⟨w1, w4, wl⟩ := widL_pos hb p hl hp
 have hlt : (j : Int) < longAt l (p : Int) := by
  unfold widL at h2
  by_cases g : longAt l (p : Int) = 0
  ·rw [if_pos g] at h2; omega
  ·rw [if_neg g] at h2; omega
 unfold insideB
 rcases (show j = 1 ∨ j = 2 ∨ j = 3 by omega) with rfl | rfl | rfl
 ·rw [show p + 1 - 1 = p by omega]
  simp; omega
 ·rw [show p + 2 - 2 = p by omega]
  simp; omega
 ·rw [show p + 3 - 3 = p by omega]
  simp; omega
end Go.Proofs.YtijbkiajhicooabDoor.PW

namespace Go.Proofs.YtijbkiajhicooabDoor.PW
open Go.RowKit Go.Proofs.YtijbkiajhicooabDoorW.PrintWords Go.Proofs.YtijbkiajhicooabDoorW.PrintLast Go.Proofs.YtijbkiajhicooabDoorW.PrintMore
attribute [local go_sem] max2_int min2_int max_two min_two max_three min_three max_four min_four   -- for this text's walks alone
set_option linter.unusedVariables false
set_option linter.unusedSimpArgs false

theorem ofL_wid {l : List Int} (hb : Bytes l) (hl : l.length ≤ 4398046511104) (p : Nat) (hp : p < l.length) : (ofL l p).2.1 = (widL l p : Int) := by
 unfold ofL widL
 by_cases g : longAt l (p : Int) = 0
 ·rw [if_pos g, if_pos g]; rfl
 ·rw [if_neg g, if_neg g]
  have := (longAt_facts hb p hl (by omega)).1
  show longAt l (p : Int) = _
  omega
theorem sf_cons {l : List Int} (hb : Bytes l) (hl : l.length ≤ 4398046511104) (p : Nat) (hp : p < l.length) :
  stepsFrom (strOfNums l) p = ((p : Int), ofL l p) :: stepsFrom (strOfNums l) (p + widL l p) := by
 have h := first_of hb p hp (by omega)
 have hw := ofL_wid hb hl p hp
 rw [stepsFrom_cons _ _ (by rw [strOfNums_size]; exact hp), h.1, show (Utf8.decode (strOfNums l) p).2 = widL l p by omega]
theorem sf_nil {l : List Int} (p : Nat) (hp : l.length ≤ p) : stepsFrom (strOfNums l) p = [] := stepsFrom_nil _ _ (by rw [strOfNums_size]; omega)
end Go.Proofs.YtijbkiajhicooabDoor.PW

namespace Go.Proofs.YtijbkiajhicooabDoor.PW
open Go.RowKit Go.Proofs.YtijbkiajhicooabDoorW.PrintWords Go.Proofs.YtijbkiajhicooabDoorW.PrintLast Go.Proofs.YtijbkiajhicooabDoorW.PrintMore
attribute [local go_sem] max2_int min2_int max_two min_two max_three min_three max_four min_four   -- for this text's walks alone
set_option linter.unusedVariables false
set_option linter.unusedSimpArgs false

theorem longOf_one {x y z w : Int} (h : isOne x) : longOf x y z w = 1 := by
 rcases longOf_cases x y z w with ⟨g, e⟩ | ⟨g, e⟩ | ⟨g, e⟩ | ⟨g, e⟩ | ⟨g, _⟩
 ·exact e
 ·unfold isOne at h; unfold isTwo at g; omega
 ·unfold isOne at h; unfold isThree at g; omega
 ·unfold isOne at h; unfold isFour at g; omega
 ·exact absurd h g
theorem longOf_two {x y z w : Int} (h : isTwo x y) : longOf x y z w = 2 := by
 rcases longOf_cases x y z w with ⟨g, e⟩ | ⟨g, e⟩ | ⟨g, e⟩ | ⟨g, e⟩ | ⟨_, g, _⟩
 ·unfold isTwo at h; unfold isOne at g; omega
 ·exact e
 ·unfold isTwo at h; unfold isThree at g; omega
 ·unfold isTwo at h; unfold isFour at g; omega
 ·exact absurd h g
theorem longOf_three {x y z w : Int} (h : isThree x y z) : longOf x y z w = 3 := by
 rcases longOf_cases x y z w with ⟨g, e⟩ | ⟨g, e⟩ | ⟨g, e⟩ | ⟨g, e⟩ | ⟨_, _, g, _⟩
 ·unfold isThree at h; unfold isOne at g; omega
 ·unfold isThree at h; unfold isTwo at g; omega
 ·exact e
 ·unfold isThree at h; unfold isFour at g; omega
 ·exact absurd h g
theorem longOf_none {x y z w : Int} (h1 : ¬ isOne x) (h2 : ¬ isTwo x y) (h3 : ¬ isThree x y z) (h4 : ¬ isFour x y z w) : longOf x y z w = 0 := by
 rcases longOf_cases x y z w with ⟨g, e⟩ | ⟨g, e⟩ | ⟨g, e⟩ | ⟨g, e⟩ | ⟨_, _, _, _, e⟩
 ·exact absurd g h1
 ·exact absurd g h2
 ·exact absurd g h3
 ·exact absurd g h4
 ·exact e
theorem atI_slice (l : List Int) (S E q : Nat) : atI ((l.take E).drop S) (q : Int) = if S + q < E then atI l (S + q : Nat) else -1 := by
 rw [atI_drop]
 by_cases h : S + q < E
 ·rw [if_pos h]
  unfold atI rd
  simp only [List.length_take, Int.toNat_natCast, List.getD_eq_getElem?_getD, List.getElem?_take]
  rw [if_pos h]
  by_cases g : S + q < l.length
  ·rw [if_neg (by omega), if_neg (by omega)]
  ·rw [if_pos (by omega), if_pos (by omega)]
 ·rw [if_neg h]
  exact atI_out _ _ (by simp; omega)
/-- The piece from S to E. -/
abbrev piece (l : List Int) (S E : Nat) : List Int := (l.take E).drop S
theorem piece_len (l : List Int) (S E : Nat) (h : E ≤ l.length) : (piece l S E).length = E - S := by simp; omega
theorem Bytes.piece {l : List Int} (h : Bytes l) (S E : Nat) : Bytes (piece l S E) := fun x hx => h x (List.mem_of_mem_take (List.mem_of_mem_drop hx))
theorem long_slice {l : List Int} (hb : Bytes l) (hl : l.length ≤ 4398046511104) (S E p : Nat) (hS : S ≤ p) (hp : p < E) (hE : E ≤ l.length) (hw : p + widL l p ≤ E) :
  longAt (piece l S E) ((p - S : Nat) : Int) = longAt l (p : Int) ∧ ofL (piece l S E) (p - S) = ofL l p := by
 have h0 := atI_slice l S E (p - S)
 have h1 := atI_slice l S E (p - S + 1)
 have h2 := atI_slice l S E (p - S + 2)
 have h3 := atI_slice l S E (p - S + 3)
 rw [if_pos (by omega), show S + (p - S) = p by omega] at h0
 rw [show S + (p - S + 1) = p + 1 by omega] at h1
 rw [show S + (p - S + 2) = p + 2 by omega] at h2
 rw [show S + (p - S + 3) = p + 3 by omega] at h3
 have hL := longAt_nat l p (by omega)
 have hL' := longAt_nat (piece l S E) (p - S) (by omega)
 obtain ⟨x, hx⟩ : ∃ x, atI l (p : Int) = x := ⟨_, rfl⟩
 obtain ⟨y, hy⟩ : ∃ x, atI l (p + 1 : Nat) = x := ⟨_, rfl⟩
 obtain ⟨z, hz⟩ : ∃ x, atI l (p + 2 : Nat) = x := ⟨_, rfl⟩
 obtain ⟨v, hv⟩ : ∃ x, atI l (p + 3 : Nat) = x := ⟨_, rfl⟩
 obtain ⟨y', hy'⟩ : ∃ x, atI (piece l S E) (p - S + 1 : Nat) = x := ⟨_, rfl⟩
 obtain ⟨z', hz'⟩ : ∃ x, atI (piece l S E) (p - S + 2 : Nat) = x := ⟨_, rfl⟩
 obtain ⟨v', hv'⟩ : ∃ x, atI (piece l S E) (p - S + 3 : Nat) = x := ⟨_, rfl⟩
 have hx' : atI (piece l S E) ((p - S : Nat) : Int) = x := h0.trans hx
 replace h1 := hy'.symm.trans h1
 replace h2 := hz'.symm.trans h2
 replace h3 := hv'.symm.trans h3
 rw [hy] at h1
 rw [hz] at h2
 rw [hv] at h3
 rw [hx, hy, hz, hv] at hL
 rw [hx', hy', hz', hv'] at hL'
 unfold widL at hw
 rw [hL] at hw
 unfold ofL
 rw [hL, hL', hx, hy, hz, hv, hx', hy', hz', hv']
 clear hL hL' hx hy hz hv hx' hy' hz' hv' h0
 rcases longOf_cases x y z v with ⟨g, e⟩ | ⟨g, e⟩ | ⟨g, e⟩ | ⟨g, e⟩ | ⟨g1, g2, g3, g4, e⟩
 ·have e' : longOf x y' z' v' = 1 := longOf_one g
  rw [e, e']
  refine ⟨rfl, ?_⟩
  unfold runeV
  rw [e, e']
  rfl
 ·rw [e, if_neg (by decide)] at hw
  replace hw : p + 2 ≤ E := hw
  rw [if_pos (by omega)] at h1
  subst h1
  have e' : longOf x y' z' v' = 2 := longOf_two g
  rw [e, e']
  refine ⟨rfl, ?_⟩
  unfold runeV
  rw [e, e']
  rfl
 ·rw [e, if_neg (by decide)] at hw
  replace hw : p + 3 ≤ E := hw
  rw [if_pos (by omega)] at h1 h2
  subst h1 h2
  have e' : longOf x y' z' v' = 3 := longOf_three g
  rw [e, e']
  refine ⟨rfl, ?_⟩
  unfold runeV
  rw [e, e']
  rfl
 ·rw [e, if_neg (by decide)] at hw
  replace hw : p + 4 ≤ E := hw
  rw [if_pos (by omega)] at h1 h2 h3
  subst h1 h2 h3
  exact ⟨rfl, rfl⟩
 ·have i1 : y' = y ∨ y' = -1 := by rw [h1]; split <;> simp
  have i2 : z' = z ∨ z' = -1 := by rw [h2]; split <;> simp
  have i3 : v' = v ∨ v' = -1 := by rw [h3]; split <;> simp
  have e' : longOf x y' z' v' = 0 := by
   unfold isTwo at g2
   unfold isThree at g3
   unfold isFour at g4
   refine longOf_none g1 ?_ ?_ ?_
   ·unfold isTwo; omega
   ·unfold isThree; omega
   ·unfold isFour; omega
  rw [e, e']
  exact ⟨rfl, rfl⟩
/-- A step further on. -/
def shiftS (S : Nat) (x : PStep) : PStep := (x.1 + S, x.2)
theorem wid_slice {l : List Int} (hb : Bytes l) (hl : l.length ≤ 4398046511104) (S E p : Nat) (hS : S ≤ p) (hp : p < E) (hE : E ≤ l.length) (hw : p + widL l p ≤ E) : widL (piece l S E) (p - S) = widL l p := by
 unfold widL
 rw [(long_slice hb hl S E p hS hp hE hw).1]
/-- E is an edge behind p: steps from p on come to it. -/
inductive Reach (l : List Int) (E : Nat) : Nat → Prop
 | here : Reach l E E
 | step {p : Nat} : p < E → E ≤ l.length → Reach l E (p + widL l p) → Reach l E p
theorem Reach.le {l : List Int} {E p : Nat} (h : Reach l E p) : p ≤ E := by
 induction h with
 | here => exact Nat.le_refl _
 | step h1 _ _ _ => omega
theorem steps_slice {l : List Int} (hb : Bytes l) (hl : l.length ≤ 4398046511104) (S E : Nat) (hE : E ≤ l.length) {p : Nat} (h : Reach l E p) : S ≤ p →
  stepsFrom (strOfNums l) p = (stepsFrom (strOfNums (piece l S E)) (p - S)).map (shiftS S) ++ stepsFrom (strOfNums l) E := by
 induction h with
 | here =>
  intro hS
  rw [sf_nil (l := piece l S E) (E - S) (by rw [piece_len l S E hE]; exact Nat.le_refl _)]
  rfl
 | @step p h1 _ h2 ih =>
  intro hS
  have hr := h2.le
  have hw := wid_slice hb hl S E p hS h1 hE hr
  rw [sf_cons hb hl p (by omega), sf_cons (hb.piece S E) (by rw [piece_len l S E hE]; omega) (p - S) (by rw [piece_len l S E hE]; omega), hw]
  have := ih (by omega)
  rw [show p + widL l p - S = p - S + widL l p by omega] at this
  rw [this, List.map_cons, List.cons_append, (long_slice hb hl S E p hS h1 hE hr).2]
  congr 1
  unfold shiftS
  simp only [Prod.mk.injEq, and_true]
  omega
/-- A place where a step begins is come to from every such place ahead of it. -/
theorem reach_vis {l : List Int} (hb : Bytes l) (hl : l.length ≤ 4398046511104) (E : Nat) (hE : E ≤ l.length) (hv : Vis l E) : ∀ (n p : Nat), E - p = n → p ≤ E → Reach l E p := by
 intro n
 induction n using Nat.strongRecOn with
 | _ n ih =>
  intro p hn hp
  by_cases h : p = E
  ·subst h; exact .here
  ·obtain ⟨w1, w4, wl⟩ := widL_pos hb p hl (by omega)
   have : p + widL l p ≤ E := by
    refine Nat.le_of_not_lt fun hlt => ?_
    have h3 := hv (E - p) (by omega) (by omega) (by omega)
    rw [show E - (E - p) = p by omega] at h3
    have := longAt_facts hb p hl (by omega)
    unfold widL at hlt
    by_cases g : longAt l (p : Int) = 0
    ·rw [if_pos g] at hlt; omega
    ·rw [if_neg g] at hlt; omega
   exact .step (by omega) hE (ih (E - (p + widL l p)) (by omega) _ rfl this)

end Go.Proofs.YtijbkiajhicooabDoor.PW

namespace Go.Proofs.YtijbkiajhicooabDoor.PW
open Go.RowKit Go.Proofs.YtijbkiajhicooabDoorW.PrintWords Go.Proofs.YtijbkiajhicooabDoorW.PrintLast Go.Proofs.YtijbkiajhicooabDoorW.PrintMore
attribute [local go_sem] max2_int min2_int max_two min_two max_three min_three max_four min_four   -- for this text's walks alone
set_option linter.unusedVariables false
set_option linter.unusedSimpArgs false

/-- Does a line begin at the place? -/
def startsB (l : List Int) (p : Nat) : Bool :=
 if p = 0 then true else if rd l ((p : Int) - 1) = 10 then true else if rd l ((p : Int) - 1) = 13 then (if p = l.length then true else rd l (p : Int) != 10) else false
theorem rd_at {l : List Int} (hb : Bytes l) (p : Nat) (hp : p < l.length) : rd l (p : Int) = atI l (p : Int) := by
 obtain ⟨e, h0, h1⟩ := atI_in hb p hp
 rw [e]
 unfold rd
 simp
/-- A step of a rune below 128 is its byte. -/
theorem rune_byte {l : List Int} (hb : Bytes l) (hl : l.length ≤ 4398046511104) (p : Nat) (hp : p < l.length) (c : Int) (h0 : 0 ≤ c) (h1 : c < 128) :
  ((ofL l p).2.2 = true ∧ (ofL l p).1 = c) ↔ rd l (p : Int) = c := by
 rw [rd_at hb p hp]
 have hlong := longAt_nat l p (by omega)
 unfold ofL
 rw [hlong]
 obtain ⟨x, hx⟩ : ∃ x, atI l (p : Int) = x := ⟨_, rfl⟩
 obtain ⟨y, hy⟩ : ∃ x, atI l (p + 1 : Nat) = x := ⟨_, rfl⟩
 obtain ⟨z, hz⟩ : ∃ x, atI l (p + 2 : Nat) = x := ⟨_, rfl⟩
 obtain ⟨v, hv⟩ : ∃ x, atI l (p + 3 : Nat) = x := ⟨_, rfl⟩
 rw [hx, hy, hz, hv]
 clear hlong hx hy hz hv
 rcases longOf_cases x y z v with ⟨h, e⟩ | ⟨h, e⟩ | ⟨h, e⟩ | ⟨h, e⟩ | ⟨g1, g2, g3, g4, e⟩
 ·have hr : runeV x y z v = x := by simp [runeV, e]
  rw [hr, e, if_neg (by decide)]
  simp
 ·have hr : runeV x y z v = x % 32 * 64 + y % 64 := by simp [runeV, e]
  unfold isTwo at h
  rw [hr, e, if_neg (by decide)]
  exact ⟨fun g => by have := g.2; simp only at this; omega, fun g => by omega⟩
 ·have hr : runeV x y z v = x % 16 * 4096 + y % 64 * 64 + z % 64 := by simp [runeV, e]
  unfold isThree at h
  rw [hr, e, if_neg (by decide)]
  exact ⟨fun g => by have := g.2; simp only at this; omega, fun g => by omega⟩
 ·have hr : runeV x y z v = x % 8 * 262144 + y % 64 * 4096 + z % 64 * 64 + v % 64 := by simp [runeV, e]
  unfold isFour at h
  rw [hr, e, if_neg (by decide)]
  exact ⟨fun g => by have := g.2; simp only at this; omega, fun g => by omega⟩
 ·rw [e, if_pos rfl]
  unfold isOne at g1
  exact ⟨fun g => by simp at g, fun g => by omega⟩
theorem low_long {l : List Int} (hb : Bytes l) (hl : l.length ≤ 4398046511104) (p : Nat) (hp : p < l.length) (h : rd l (p : Int) < 128) : longAt l (p : Int) = 1 ∧ widL l p = 1 := by
 rw [rd_at hb p hp] at h
 have h0 := (atI_in hb p hp).2.1
 rw [← (atI_in hb p hp).1] at h0
 have : longAt l (p : Int) = 1 := by
  rw [longAt_nat l p (by omega)]
  exact longOf_one ⟨h0, by omega⟩
 refine ⟨this, ?_⟩
 unfold widL
 rw [this]
 rfl
theorem vis_low {l : List Int} (hb : Bytes l) (hl : l.length ≤ 4398046511104) (p : Nat) (hp : p ≤ l.length) (h : p = l.length ∨ rd l (p : Int) < 128) : Vis l p := by
 intro j j1 j3 jp
 refine Int.not_lt.1 fun hlt => ?_
 obtain ⟨_, _, hle, hc, _⟩ := longAt_facts hb (p - j) hl (by omega)
 have h1 := hle (by omega)
 have h2 := hc j j1 hlt
 rw [show p - j + j = p by omega] at h2
 rcases h with h | h
 ·omega
 ·have hlt2 : p < l.length := by omega
  rw [rd_at hb p hlt2] at h
  omega
section
variable {l : List Int} (hb : Bytes l) (hl : l.length ≤ 4398046511103) (place w : Int)
/-- The next column. -/
def colNext (l : List Int) (w : Int) (p : Nat) (col : Int) : Int :=
 if rd l (p : Int) = 9 then wrap64 (wrap64 (wrap64 (Int.tdiv col w) + 1) * w) else if rd l (p : Int) = 10 ∨ rd l (p : Int) = 13 then col else wrap64 (col + 1)
end

end Go.Proofs.YtijbkiajhicooabDoor.PW

namespace Go.Proofs.YtijbkiajhicooabDoor.PW
open Go.RowKit Go.Proofs.YtijbkiajhicooabDoorW.PrintWords Go.Proofs.YtijbkiajhicooabDoorW.PrintLast Go.Proofs.YtijbkiajhicooabDoorW.PrintMore
attribute [local go_sem] max2_int min2_int max_two min_two max_three min_three max_four min_four   -- for this text's walks alone
set_option linter.unusedVariables false
set_option linter.unusedSimpArgs false

/-- A line's content ends at C with a line end, and the next line begins at n. -/
def LEnd (l : List Int) (C n : Nat) : Prop :=
 C < l.length ∧ n ≤ l.length ∧ (rd l (C : Int) = 10 ∨ rd l (C : Int) = 13) ∧ startsB l n = true ∧ (n = C + 1 ∨ (n = C + 2 ∧ C + 1 < l.length ∧ rd l (C : Int) = 13 ∧ rd l ((C + 1 : Nat) : Int) = 10))
theorem lend_of {l : List Int} {r : S153} (h : EndsAt l r) (h0 : 0 ≤ r.f1) : ∃ n : Nat, r.f3 = (n : Int) ∧ LEnd l r.f1.toNat n := by
 obtain ⟨C, hC⟩ : ∃ C : Nat, r.f1 = (C : Int) := ⟨r.f1.toNat, by omega⟩
 unfold EndsAt at h
 rw [hC] at h ⊢
 rw [Int.toNat_natCast]
 rcases h with ⟨h1, h2, h3, h4⟩ | ⟨h1, h2, h3, h4, h5⟩ | ⟨h1, h2, h3, h4, h5⟩
 ·refine ⟨C + 1, by omega, by omega, by omega, .inl h2, ?_, .inl rfl⟩
  unfold startsB
  rw [if_neg (by omega), show ((C + 1 : Nat) : Int) - 1 = (C : Int) by omega, if_pos h2]
 ·refine ⟨C + 2, by omega, by omega, by omega, .inr h2, ?_, .inr ⟨rfl, by omega, h2, h3⟩⟩
  unfold startsB
  rw [if_neg (by omega), show ((C + 2 : Nat) : Int) - 1 = (C : Int) + 1 by omega, if_pos h3]
 ·refine ⟨C + 1, by omega, by omega, by omega, .inr h2, ?_, .inl rfl⟩
  unfold startsB
  rw [if_neg (by omega), show ((C + 1 : Nat) : Int) - 1 = (C : Int) by omega, if_neg (by rw [h2]; decide), if_pos h2]
  by_cases e : C + 1 = l.length
  ·rw [if_pos e]
  ·rw [if_neg e]
   have : rd l ((C + 1 : Nat) : Int) ≠ 10 := fun g => h3 ⟨by omega, g⟩
   simpa using this
theorem end_low {l : List Int} {C : Nat} (h : rd l (C : Int) = 10 ∨ rd l (C : Int) = 13) : rd l (C : Int) < 128 := by
 rcases h with h | h <;> rw [h] <;> decide
theorem starts_mid {l : List Int} {C : Nat} (h1 : C + 1 < l.length) (h2 : rd l (C : Int) = 13) (h3 : rd l ((C + 1 : Nat) : Int) = 10) : startsB l (C + 1) = false := by
 unfold startsB
 rw [if_neg (by omega), show ((C + 1 : Nat) : Int) - 1 = (C : Int) by omega, if_neg (by rw [h2]; decide), if_pos h2, if_neg (by omega), h3]
 rfl
section
variable {l : List Int} (hb : Bytes l) (hl : l.length ≤ 4398046511103) (pl : Nat) (hpl : pl ≤ l.length) (w : Int) (hw0 : 1 ≤ w)
/-- What the column is, by the line that begins at S and whose content ends at C. -/
def colIn (l : List Int) (w : Int) (fp S C : Nat) : Int := colOf w (piece l S (min fp C))
end

end Go.Proofs.YtijbkiajhicooabDoor.PW

namespace Go.Proofs.YtijbkiajhicooabDoor.PW
open Go.RowKit Go.Proofs.YtijbkiajhicooabDoorW.PrintWords Go.Proofs.YtijbkiajhicooabDoorW.PrintLast Go.Proofs.YtijbkiajhicooabDoorW.PrintMore
attribute [local go_sem] max2_int min2_int max_two min_two max_three min_three max_four min_four   -- for this text's walks alone
set_option linter.unusedVariables false
set_option linter.unusedSimpArgs false

theorem strOfNums_whole (l : List Int) : (strOfNums l).extract 0 (strOfNums l).size = strOfNums l := by
 have := strOfNums_drop l 0
 rwa [List.drop_zero] at this
theorem step_at_ev {l : List Int} (hb : Bytes l) (hl : l.length ≤ 4398046511104) (q : Nat) (hq : q < l.length) : step_at.f l (q : Int) = some (ofL l q) := by
 obtain ⟨w1, w4, wl⟩ := widL_pos hb q hl hq
 obtain ⟨E, hE⟩ : ∃ E : Nat, E = min (q + 4) l.length := ⟨_, rfl⟩
 have hm : mn (wrap64 ((q : Int) + 4)) (l.length : Int) = (E : Int) := by
  rw [wrap64_small (by omega) (by omega)]
  unfold mn
  split <;> omega
 have hEl : E ≤ l.length := by omega
 have hqE : q < E := by omega
 have hwE : q + widL l q ≤ E := by omega
 have hs := (long_slice hb hl q E q (Nat.le_refl _) hqE hEl hwE).2
 rw [Nat.sub_self] at hs
 have hlen := piece_len l q E hEl
 have hf := (first_of (hb.piece q E) 0 (by omega) (by omega)).1
 rw [strOfNums_whole] at hf
 unfold step_at.f
 rw [hm, if_pos (by omega), if_pos (by omega), if_pos (by omega), Int.toNat_natCast, Int.toNat_natCast]
 unfold step_first.f
 rw [Option.bind_some]
 show some ((firstOf (strOfNums (piece l q E)))) = _
 rw [hf, hs]
/-- How far ahead of a place the step begins that goes over it. -/
def insideK (l : List Int) (p : Nat) : Nat :=
 if 1 ≤ p ∧ 1 < widL l (p - 1) then 1 else if 2 ≤ p ∧ 2 < widL l (p - 2) then 2 else if 3 ≤ p ∧ 3 < widL l (p - 3) then 3 else 0
def floorL (l : List Int) (p : Nat) : Nat := p - insideK l p
theorem inside_round {l : List Int} (hb : Bytes l) (hl : l.length ≤ 4398046511104) (p j : Nat) (hp : p ≤ l.length) (h1 : 1 ≤ j) (h3 : j ≤ 3) (k : Nat) :
  step_inside.l0 (k + 2) l (p : Int) (j : Int) = if j ≤ p then (if j < widL l (p - j) then some (j : Int) else step_inside.l0 k l (p : Int) ((j + 1 : Nat) : Int)) else some 0 := by
 rw [step_inside.l0, if_pos (by omega), step_inside.j1]
 by_cases h : j ≤ p
 ·have hw : wrap64 ((p : Int) - (j : Int)) = ((p - j : Nat) : Int) := by rw [wrap64_small (by omega) (by omega)]; omega
  have hw2 : wrap64 ((j : Int) + 1) = ((j + 1 : Nat) : Int) := by rw [wrap64_small (by omega) (by omega)]; omega
  have ho := ofL_wid hb hl (p - j) (by omega)
  have hg : ((ofL l (p - j)).2.1 > (j : Int)) ↔ j < widL l (p - j) := by rw [ho]; omega
  rw [if_pos (decide_eq_true (by omega)), if_pos h, hw, step_at_ev hb hl (p - j) (by omega), Option.bind_some, hw2]
  by_cases g : j < widL l (p - j)
  ·rw [if_pos g, if_pos (hg.2 g)]
  ·rw [if_neg g, if_neg (fun e => g (hg.1 e))]
 ·rw [if_neg (by rw [decide_eq_false (by omega)]; decide), if_neg h]
theorem inside_last (l : List Int) (p : Int) (k : Nat) : step_inside.l0 (k + 2) l p 4 = some 0 := by
 rw [step_inside.l0, if_neg (by decide), step_inside.j1, if_neg (by decide)]
theorem insideK_ev {l : List Int} (hb : Bytes l) (hl : l.length ≤ 4398046511104) (p : Nat) (hp : p ≤ l.length) (k : Nat) (hk : 8 ≤ k) : step_inside.f k l (p : Int) = some (insideK l p : Int) := by
 obtain ⟨m, rfl⟩ : ∃ m, k = m + 8 := ⟨k - 8, by omega⟩
 unfold step_inside.f insideK
 have r1 := inside_round hb hl p 1 hp (by omega) (by omega) (m + 6)
 have r2 := inside_round hb hl p 2 hp (by omega) (by omega) (m + 4)
 have r3 := inside_round hb hl p 3 hp (by omega) (by omega) (m + 2)
 have r4 := inside_last l (p : Int) m
 refine r1.trans ?_
 by_cases h1 : 1 ≤ p
 ·by_cases g1 : 1 < widL l (p - 1)
  ·rw [if_pos h1, if_pos g1, if_pos ⟨h1, g1⟩]
  ·rw [if_pos h1, if_neg g1, if_neg (fun e => g1 e.2)]
   refine r2.trans ?_
   by_cases h2 : 2 ≤ p
   ·by_cases g2 : 2 < widL l (p - 2)
    ·rw [if_pos h2, if_pos g2, if_pos ⟨h2, g2⟩]
    ·rw [if_pos h2, if_neg g2, if_neg (fun e => g2 e.2)]
     refine r3.trans ?_
     by_cases h3 : 3 ≤ p
     ·by_cases g3 : 3 < widL l (p - 3)
      ·rw [if_pos h3, if_pos g3, if_pos ⟨h3, g3⟩]
      ·rw [if_pos h3, if_neg g3, if_neg (fun e => g3 e.2)]
       exact r4
     ·rw [if_neg h3, if_neg (fun e => h3 e.1)]
      rfl
   ·rw [if_neg h2, if_neg (fun e => h2 e.1), if_neg (fun e => h2 (by omega))]
    rfl
 ·rw [if_neg h1, if_neg (fun e => h1 e.1), if_neg (fun e => h1 (by omega)), if_neg (fun e => h1 (by omega))]
  rfl
theorem insideK_le (l : List Int) (p : Nat) : insideK l p ≤ p := by
 unfold insideK
 split
 ·omega
 ·split
  ·omega
  ·split <;> omega
theorem floor_ev {l : List Int} (hb : Bytes l) (hl : l.length ≤ 4398046511104) (p : Nat) (hp : p ≤ l.length) (k : Nat) (hk : 8 ≤ k) : step_Floor.f k l (p : Int) = some ((floorL l p : Int), 0) := by
 have hle := insideK_le l p
 unfold step_Floor.f
 rw [if_neg (by omega), if_neg (by omega), insideK_ev hb hl p hp k hk, Option.bind_some, wrap64_small (by omega) (by omega)]
 unfold floorL
 rw [show ((p - insideK l p : Nat) : Int) = (p : Int) - (insideK l p : Int) by omega]
theorem long_le_wid (l : List Int) (q : Nat) : longAt l (q : Int) ≤ (widL l q : Int) := by
 unfold widL
 split
 ·omega
 ·omega
theorem long_of_wid {l : List Int} (q : Nat) (h : 1 < widL l q) : longAt l (q : Int) = (widL l q : Int) := by
 unfold widL at h ⊢
 by_cases g : longAt l (q : Int) = 0
 ·rw [if_pos g] at h; omega
 ·rw [if_neg g] at h ⊢; omega
theorem floor_facts {l : List Int} (hb : Bytes l) (hl : l.length ≤ 4398046511104) (p : Nat) (hp : p ≤ l.length) :
  Vis l (floorL l p) ∧ floorL l p ≤ p ∧ (floorL l p = p ∨ (floorL l p < p ∧ p < floorL l p + widL l (floorL l p))) := by
 have hv : ∀ k : Nat, 1 ≤ k → k ≤ p → k < widL l (p - k) → Vis l (p - k) := fun k h1 hk hw j j1 j3 jp => by
  refine Int.not_lt.1 fun hlt => ?_
  have hlong := long_of_wid (l := l) (p - k) (by omega)
  obtain ⟨_, _, _, hc, _⟩ := longAt_facts hb (p - k - j) hl (by omega)
  have := hc j j1 hlt
  rw [show p - k - j + j = p - k by omega] at this
  have hz := (longAt_facts hb (p - k) hl (by omega)).2.2.2.2 this
  omega
 unfold floorL insideK
 by_cases c1 : 1 ≤ p ∧ 1 < widL l (p - 1)
 ·rw [if_pos c1]
  exact ⟨hv 1 (by omega) c1.1 c1.2, by omega, .inr ⟨by omega, by omega⟩⟩
 rw [if_neg c1]
 by_cases c2 : 2 ≤ p ∧ 2 < widL l (p - 2)
 ·rw [if_pos c2]
  exact ⟨hv 2 (by omega) c2.1 c2.2, by omega, .inr ⟨by omega, by omega⟩⟩
 rw [if_neg c2]
 by_cases c3 : 3 ≤ p ∧ 3 < widL l (p - 3)
 ·rw [if_pos c3]
  exact ⟨hv 3 (by omega) c3.1 c3.2, by omega, .inr ⟨by omega, by omega⟩⟩
 rw [if_neg c3]
 refine ⟨fun j j1 j3 jp => ?_, by omega, .inl rfl⟩
 rw [Nat.sub_zero] at jp ⊢
 have := long_le_wid l (p - j)
 rcases (show j = 1 ∨ j = 2 ∨ j = 3 by omega) with rfl | rfl | rfl
 ·have : widL l (p - 1) ≤ 1 := Nat.le_of_not_lt fun h => c1 ⟨jp, h⟩
  omega
 ·have : widL l (p - 2) ≤ 2 := Nat.le_of_not_lt fun h => c2 ⟨jp, h⟩
  omega
 ·have : widL l (p - 3) ≤ 3 := Nat.le_of_not_lt fun h => c3 ⟨jp, h⟩
  omega
/-- An edge at or ahead of a place is at or ahead of the place's floor. -/
theorem edge_floor {l : List Int} (hb : Bytes l) (hl : l.length ≤ 4398046511104) (p : Nat) (hp : p ≤ l.length) (e : Nat) (he : Vis l e) (hle : e ≤ p) : e ≤ floorL l p := by
 obtain ⟨_, h1, h2⟩ := floor_facts hb hl p hp
 refine Nat.le_of_not_lt fun hlt => ?_
 rcases h2 with h2 | h2
 ·omega
 ·have := inside_step hb hl (p := floorL l p) (by omega) (e - floorL l p) (by omega) (by omega)
  rw [show floorL l p + (e - floorL l p) = e by omega, inside_vis he] at this
  cases this
/-- The line of a list that holds a place. -/
def selLine (fp : Int) : List S153 → S153
 | [] => ⟨0, 0, 0, 0⟩
 | [r] => r
 | r :: q :: t => if q.f0 > fp then r else selLine fp (q :: t)
theorem rd_line (ls : List S153) (i : Nat) (h : i < ls.length) : rd_T153 ls (i : Int) = ls[i] := by
 unfold rd_T153
 rw [List.getD_eq_getElem?_getD, Int.toNat_natCast, List.getElem?_eq_getElem h]
 rfl
theorem holds_l0 (fp : Int) (ls : List S153) (hl : ls.length ≤ 4398046511104) : ∀ (t : List S153) (i : Nat) (r : S153) (k : Nat), ls.drop i = r :: t → ls.length + 1 ≤ i + k + 1 →
  ∃ j : Nat, lines_holds.l0 (k + 1) ls fp (i : Int) (ls.length : Int) ((i + 1 : Nat) : Int) = some (j : Int) ∧ j < ls.length ∧ rd_T153 ls (j : Int) = selLine fp (r :: t) := by
 intro t
 induction t with
 | nil =>
  intro i r k hd hk
  have hi : i < ls.length := by
   refine Nat.lt_of_not_le fun h => ?_
   rw [List.drop_of_length_le h] at hd
   cases hd
  have hlen : ls.length = i + 1 := by
   have := congrArg List.length hd
   simp at this
   omega
  refine ⟨i, ?_, hi, ?_⟩
  ·rw [lines_holds.l0, if_neg (by omega)]
  ·rw [rd_line ls i hi]
   rw [List.drop_eq_getElem_cons hi] at hd
   exact (List.cons.inj hd).1
 | cons q t ih =>
  intro i r k hd hk
  have hi : i < ls.length := by
   refine Nat.lt_of_not_le fun h => ?_
   rw [List.drop_of_length_le h] at hd
   cases hd
  have hlen := congrArg List.length hd
  simp at hlen
  have hi1 : i + 1 < ls.length := by omega
  rw [List.drop_eq_getElem_cons hi] at hd
  obtain ⟨hr, hd1⟩ := List.cons.inj hd
  have hd2 := hd1
  rw [List.drop_eq_getElem_cons hi1] at hd2
  have hq := (List.cons.inj hd2).1
  have hrd := rd_line ls (i + 1) hi1
  rw [hq] at hrd
  have hw : wrap64 (((i + 1 : Nat) : Int) + 1) = ((i + 1 + 1 : Nat) : Int) := by rw [wrap64_small (by omega) (by omega)]; omega
  have c1 : ((i + 1 : Nat) : Int) < (ls.length : Int) := by omega
  have c0 : 0 ≤ ((i + 1 : Nat) : Int) := by omega
  obtain ⟨m, rfl⟩ : ∃ m, k = m + 1 := ⟨k - 1, by omega⟩
  by_cases g : q.f0 > fp
  ·refine ⟨i, ?_, hi, ?_⟩
   ·rw [lines_holds.l0, if_pos c1, if_pos c0, if_pos c1, hrd, if_pos g]
   ·rw [rd_line ls i hi, hr]
    simp only [selLine]
    rw [if_pos g]
  ·obtain ⟨j, h1, h2, h3⟩ := ih (i + 1) q m hd1 (by omega)
   refine ⟨j, ?_, h2, ?_⟩
   ·rw [lines_holds.l0, if_pos c1, if_pos c0, if_pos c1, hrd, if_neg g, hw]
    exact h1
   ·rw [h3]
    simp only [selLine]
    rw [if_neg g]

end Go.Proofs.YtijbkiajhicooabDoor.PW

namespace Go.Proofs.YtijbkiajhicooabDoor.PW
open Go.RowKit Go.Proofs.YtijbkiajhicooabDoorW.PrintWords Go.Proofs.YtijbkiajhicooabDoorW.PrintLast Go.Proofs.YtijbkiajhicooabDoorW.PrintMore
attribute [local go_sem] max2_int min2_int max_two min_two max_three min_three max_four min_four   -- for this text's walks alone
set_option linter.unusedVariables false
set_option linter.unusedSimpArgs false

def rowOf (r : S153) : S62 := ⟨r.f0, r.f1, r.f3⟩
theorem rows07_scan (l : List Int) (hl : l.length ≤ 4398046511103) (out : List S62) (st : Int) (C : Nat) (hC : C ≤ l.length) {v : List S62} (h : Ev (fun k => galleyref07_Rows.l0 k l out st (C : Int)) v) :
  ∀ (n i : Nat), i + n = C → PlainTo l (i : Int) (C : Int) → Ev (fun k => galleyref07_Rows.l0 k l out st (i : Int)) v := by
 intro n
 induction n with
 | zero =>
  intro i hi _
  obtain rfl : i = C := by omega
  exact h
 | succ n ih =>
  intro i hi hp
  have c1 : (i : Int) < (l.length : Int) := by omega
  have c2 : 0 ≤ (i : Int) := by omega
  have hw : wrap64 ((i : Int) + 1) = ((i + 1 : Nat) : Int) := by rw [wrap64_small (by omega) (by omega)]; omega
  have ih1 := ih (i + 1) (by omega) (fun q a b => hp q (by omega) b)
  obtain ⟨h10, h13⟩ := hp (i : Int) (by omega) (by omega)
  refine Ev.succ (h := fun k => galleyref07_Rows.j1 k l out st (i : Int) true) (Ev.succ ih1 (fun k => ?_)) (fun k => ?_)
  ·rw [galleyref07_Rows.j1, if_pos rfl, hw]
  ·rw [galleyref07_Rows.l0, if_pos c1, if_pos c2, if_neg h13]
   have : (rd l (i : Int) != 10) = true := by simpa using h10
   rw [this]
theorem wraps_C (C : Nat) (h : C ≤ 4398046511103) : wrap64 ((C : Int) + 1) = (C : Int) + 1 ∧ wrap64 ((C : Int) + 1 + 1) = (C : Int) + 2 ∧ wrap64 (wrap64 ((C : Int) + 2 - 1) + 1) = (C : Int) + 2 ∧ wrap64 (wrap64 ((C : Int) + 1 - 1) + 1) = (C : Int) + 1 := by
 have a1 : (C : Int) + 1 + 1 = (C : Int) + 2 := by omega
 have a2 : (C : Int) + 2 - 1 = (C : Int) + 1 := by omega
 have a3 : (C : Int) + 1 - 1 = (C : Int) := by omega
 have b1 : wrap64 ((C : Int) + 1) = (C : Int) + 1 := wrap64_small (by omega) (by omega)
 have b2 : wrap64 ((C : Int) + 2) = (C : Int) + 2 := wrap64_small (by omega) (by omega)
 have b3 : wrap64 (C : Int) = (C : Int) := wrap64_small (by omega) (by omega)
 refine ⟨b1, ?_, ?_, ?_⟩
 ·rw [a1, b2]
 ·rw [a2, b1, a1, b2]
 ·rw [a3, b3, b1]
theorem rows07_lines {l : List Int} (hl : l.length ≤ 4398046511103) : ∀ (rs : List S153) (S : Nat) (out : List S62), LChain l (S : Int) rs → S ≤ l.length → out.length ≤ S →
  Ev (fun k => galleyref07_Rows.l0 k l out (S : Int) (S : Int)) (out ++ rs.map rowOf) := by
 intro rs
 induction rs with
 | nil => intro S out h; exact absurd h (by simp [LChain])
 | cons r rs ih =>
  intro S out h hSl ho
  obtain ⟨h0, h1, h2, h3⟩ := h
  obtain ⟨C, hC⟩ : ∃ C : Nat, r.f1 = (C : Int) := ⟨r.f1.toNat, by omega⟩
  have hSC : S ≤ C := by omega
  rw [hC] at h2
  have hol : out.length < 5864062014805 := by omega
  rcases h3 with ⟨h3, h4, _, h6⟩ | ⟨h3, h4⟩
  ·have hCl : C = l.length := by omega
   have hr : rowOf r = ⟨(S : Int), (l.length : Int), (l.length : Int)⟩ := by unfold rowOf; rw [h0, h4, h6]
   have hnn : ¬ (C : Int) < (l.length : Int) := by omega
   refine rows07_scan l hl out (S : Int) C (by omega) ?_ (C - S) S (by omega) h2
   rw [h3, List.map_cons, List.map_nil, hr]
   refine Ev.succ (Ev.pure (out ++ [(⟨(S : Int), (l.length : Int), (l.length : Int)⟩ : S62)])) (fun k => ?_)
   rw [galleyref07_Rows.l0, if_neg hnn, if_pos hol]
  ·obtain ⟨n, hn, hE⟩ := lend_of h3 (by omega)
   rw [hC, Int.toNat_natCast] at hE
   rw [hn] at h4
   have hr : rowOf r = ⟨(S : Int), (C : Int), (n : Int)⟩ := by unfold rowOf; rw [h0, hC, hn]
   obtain ⟨e1, e2, e3, e4, e5⟩ := hE
   have hSn : S ≤ n := by rcases e5 with e | ⟨e, _⟩ <;> omega
   have hon : (out ++ [rowOf r]).length ≤ n := by simp; rcases e5 with e | ⟨e, _⟩ <;> omega
   have hrec := ih n (out ++ [rowOf r]) h4 e2 hon
   have c1 : (C : Int) < (l.length : Int) := by omega
   have c2 : 0 ≤ (C : Int) := by omega
   have c3 : 0 ≤ (C : Int) + 1 := by omega
   have g1 : ((C + 1 : Nat) : Int) = (C : Int) + 1 := by omega
   have g2 : ((C + 2 : Nat) : Int) = (C : Int) + 2 := by omega
   have hCn : C ≤ 4398046511103 := by omega
   have hC1 : (C : Int) + 1 < (l.length : Int) ∨ ¬ (C : Int) + 1 < (l.length : Int) := by omega
   have hC1n : (C : Int) + 1 < (l.length : Int) → C + 1 < l.length := fun h => by omega
   have hnC : n = C + 2 → (C : Int) + 1 < (l.length : Int) := fun h => by omega
   obtain ⟨w1, w2, w3, w4⟩ := wraps_C C hCn
   rw [List.map_cons, List.append_cons]
   refine rows07_scan l hl out (S : Int) C (Nat.le_of_lt e1) ?_ (C - S) S (Nat.add_sub_cancel' hSC) h2
   refine Ev.succ (h := fun k => galleyref07_Rows.j1 k l out (S : Int) (C : Int) false) ?_ (fun k => ?_)
   ·by_cases g13 : rd l (C : Int) = 13
    ·rcases e5 with e5 | ⟨e5, e6, e7, e8⟩
     ·subst e5
      rw [hr, g1] at hrec
      rw [hr]
      refine Ev.succ hrec (fun k => ?_)
      rw [galleyref07_Rows.j1, if_neg (by decide), if_pos c2, if_pos c1, if_pos g13, w1]
      rcases hC1 with g2' | g2'
      ·have g10 : ¬ rd l ((C : Int) + 1) = 10 := by
        intro e
        rw [← g1] at e
        have := starts_mid (hC1n g2') g13 e
        rw [this] at e4
        cases e4
       rw [if_pos g2', if_pos c3, if_neg g10, if_pos hol, w4]
      ·rw [if_neg g2', if_pos hol, w4]
     ·subst e5
      rw [hr, g2] at hrec
      rw [hr]
      have c4 := hnC rfl
      rw [g1] at e8
      refine Ev.succ hrec (fun k => ?_)
      rw [galleyref07_Rows.j1, if_neg (by decide), if_pos c2, if_pos c1, if_pos g13, w1, if_pos c4, if_pos c3, if_pos e8, if_pos hol, w2, w3]
    ·have e5' : n = C + 1 := by
      rcases e5 with e5 | ⟨_, _, e7, _⟩
      ·exact e5
      ·exact absurd e7 g13
     subst e5'
     rw [hr, g1] at hrec
     rw [hr]
     refine Ev.succ hrec (fun k => ?_)
     rw [galleyref07_Rows.j1, if_neg (by decide), if_pos c2, if_pos c1, if_neg g13, w1, if_pos hol, w4]
   ·rw [galleyref07_Rows.l0, if_pos c1, if_pos c2]
    by_cases g13 : rd l (C : Int) = 13
    ·rw [if_pos g13]
    ·have g10 : rd l (C : Int) = 10 := e3.resolve_right g13
     rw [if_neg g13, g10]
     rfl
theorem rows07_ev {l : List Int} (hl : l.length ≤ 4398046511103) : Ev (fun k => galleyref07_Rows.f k l) ((allLines l).map rowOf) := by
 have := rows07_lines hl (allLines l) 0 [] (allLines_chain l) (Nat.zero_le _) (Nat.le_refl _)
 rw [List.nil_append] at this
 exact this

end Go.Proofs.YtijbkiajhicooabDoor.PW

namespace Go.Proofs.YtijbkiajhicooabDoor.PW
open Go.RowKit Go.Proofs.YtijbkiajhicooabDoorW.PrintWords Go.Proofs.YtijbkiajhicooabDoorW.PrintLast Go.Proofs.YtijbkiajhicooabDoorW.PrintMore
attribute [local go_sem] max2_int min2_int max_two min_two max_three min_three max_four min_four   -- for this text's walks alone
set_option linter.unusedVariables false
set_option linter.unusedSimpArgs false

theorem colStep_next {l : List Int} (hb : Bytes l) (hl : l.length ≤ 4398046511104) (w : Int) (p : Nat) (hp : p < l.length) (h : rd l (p : Int) ≠ 10 ∧ rd l (p : Int) ≠ 13) (col : Int) (q : Int) : colStep w col (q, ofL l p) = colNext l w p col := by
 have h9 := rune_byte hb hl p hp 9 (by decide) (by decide)
 unfold colStep colNext
 by_cases g : rd l (p : Int) = 9
 ·rw [if_pos (h9.2 g), if_pos g]
 ·rw [if_neg (fun e => g (h9.1 e)), if_neg g, if_neg (fun e => e.elim h.1 h.2)]
section
variable {l : List Int} (hb : Bytes l) (hl : l.length ≤ 4398046511103) (place w : Int)
end

end Go.Proofs.YtijbkiajhicooabDoor.PW

namespace Go.Proofs.YtijbkiajhicooabDoor.PW
open Go.RowKit Go.Proofs.YtijbkiajhicooabDoorW.PrintWords Go.Proofs.YtijbkiajhicooabDoorW.PrintLast Go.Proofs.YtijbkiajhicooabDoorW.PrintMore
attribute [local go_sem] max2_int min2_int max_two min_two max_three min_three max_four min_four   -- for this text's walks alone
set_option linter.unusedVariables false
set_option linter.unusedSimpArgs false

theorem own_some (l : List Int) (hl : l.length ≤ 4398046511103) : galleylaw22_own.f l = some l := by
 unfold galleylaw22_own.f
 rw [Option.bind_some, if_pos (by simp; omega), List.nil_append]
end Go.Proofs.YtijbkiajhicooabDoor.PW
namespace Go.Proofs.YtijbkiajhicooabDoor.Pure
open Go.Proofs.YtijbkiajhicooabDoor.PW Go.RowKit
end Go.Proofs.YtijbkiajhicooabDoor.Pure
namespace Go.Proofs.YtijbkiajhicooabDoor.PW

end Go.Proofs.YtijbkiajhicooabDoor.PW

namespace Go.Proofs.YtijbkiajhicooabDoor.PW
open Go.RowKit Go.Proofs.YtijbkiajhicooabDoorW.PrintWords Go.Proofs.YtijbkiajhicooabDoorW.PrintLast Go.Proofs.YtijbkiajhicooabDoorW.PrintMore
attribute [local go_sem] max2_int min2_int max_two min_two max_three min_three max_four min_four   -- for this text's walks alone
set_option linter.unusedVariables false
set_option linter.unusedSimpArgs false

theorem outside_ev (l : List Int) (a : Int) : words_outside.f l a = some (decide (a < 0 ∨ a > (l.length : Int))) := by
 unfold words_outside.f
 by_cases h : a < 0
 ·rw [if_pos h, decide_eq_true (.inl h)]
 ·rw [if_neg h]
  by_cases g : a > (l.length : Int)
  ·rw [decide_eq_true g, decide_eq_true (.inr g)]
  ·rw [decide_eq_false g, decide_eq_false (by omega)]
end Go.Proofs.YtijbkiajhicooabDoor.PW
namespace Go.Proofs.YtijbkiajhicooabDoor.Pure
open Go.Proofs.YtijbkiajhicooabDoor.PW Go.RowKit
end Go.Proofs.YtijbkiajhicooabDoor.Pure
namespace Go.Proofs.YtijbkiajhicooabDoor.PW

end Go.Proofs.YtijbkiajhicooabDoor.PW

namespace Go.Proofs.YtijbkiajhicooabDoor.PW
open Go.RowKit Go.Proofs.YtijbkiajhicooabDoorW.PrintWords Go.Proofs.YtijbkiajhicooabDoorW.PrintLast Go.Proofs.YtijbkiajhicooabDoorW.PrintMore
attribute [local go_sem] max2_int min2_int max_two min_two max_three min_three max_four min_four   -- for this text's walks alone
set_option linter.unusedVariables false
set_option linter.unusedSimpArgs false

theorem sel_facts {l : List Int} (fp : Int) : ∀ (rs : List S153) (a : Int), LChain l a rs → 0 ≤ a → a ≤ fp → fp ≤ (l.length : Int) →
  0 ≤ (selLine fp rs).f0 ∧ (selLine fp rs).f0 ≤ fp ∧ (selLine fp rs).f0 ≤ (selLine fp rs).f1 ∧ (selLine fp rs).f1 ≤ (l.length : Int) := by
 intro rs
 induction rs with
 | nil => intro a h; exact absurd h (by simp [LChain])
 | cons r rs ih =>
  intro a h ha hf hl
  obtain ⟨h0, h1, h2, h3⟩ := h
  have hr : 0 ≤ r.f0 ∧ r.f0 ≤ fp ∧ r.f0 ≤ r.f1 ∧ r.f1 ≤ (l.length : Int) := by
   refine ⟨by omega, by omega, by omega, ?_⟩
   rcases h3 with ⟨_, h4, _⟩ | ⟨h4, _⟩
   ·omega
   ·rcases h4 with h | h | h <;> omega
  cases rs with
  | nil => exact hr
  | cons q t =>
   simp only [selLine]
   by_cases g : q.f0 > fp
   ·rw [if_pos g]; exact hr
   ·rw [if_neg g]
    rcases h3 with ⟨h4, _⟩ | ⟨h5, h4⟩
    ·cases h4
    ·have hq : q.f0 = r.f3 := h4.1
     have hr3 : 0 ≤ r.f3 := by
      rcases h5 with h | h | h <;> omega
     exact ih r.f3 h4 hr3 (by omega) hl
theorem size_some (l : List Int) (hl : l.length ≤ 4398046511104) (a : Int) (ha : a = 2 ∨ a = 3) : ∃ v, lines_size.f l a = some v := by
 have hr : rule_ruler.f a = some true := by rcases ha with rfl | rfl <;> rfl
 have hs : ∃ v, rule_size.f l a = some v := by
  unfold rule_size.f
  rw [if_pos hl]
  rcases ha with rfl | rfl
  ·exact ⟨_, rfl⟩
  ·exact ⟨_, rfl⟩
 obtain ⟨v, hv⟩ := hs
 refine ⟨v, ?_⟩
 unfold lines_size.f rule_Size.f
 rw [hr, Option.bind_some, if_pos rfl, hv]
 rfl
theorem lineAt_length (l : List Int) : ∀ (k : Nat) (s i : Int) (out : List S153), (lineAt l k s i out).length ≤ out.length + k := by
 intro k
 induction k with
 | zero => intro s i out; simp [lineAt]
 | succ k ih =>
  intro s i out
  simp only [lineAt]
  repeat' split
  ·refine Nat.le_trans (ih _ _ _) (by simp; omega)
  ·refine Nat.le_trans (ih _ _ _) (by simp; omega)
  ·refine Nat.le_trans (ih _ _ _) (by simp; omega)
  ·refine Nat.le_trans (ih _ _ _) (by omega)
  ·simp
theorem allLines_length (l : List Int) : (allLines l).length ≤ l.length + 1 := by
 have := lineAt_length l (l.length + 1) 0 0 []
 simpa [allLines] using this
theorem holds_all (l : List Int) (hl : l.length ≤ 4398046511103) (fp : Int) (h0 : 0 ≤ fp) (k : Nat) (hk : l.length + 3 ≤ k) :
  ∃ j : Nat, lines_holds.f k (allLines l) fp = some (j : Int) ∧ j < (allLines l).length ∧ rd_T153 (allLines l) (j : Int) = selLine fp (allLines l) := by
 have hlen := allLines_length l
 obtain ⟨m, rfl⟩ : ∃ m, k = m + 2 := ⟨k - 2, by omega⟩
 cases hA : allLines l with
 | nil => have := allLines_chain l; rw [hA] at this; exact absurd this (by simp [LChain])
 | cons r t =>
  have hch := allLines_chain l
  rw [hA] at hch hlen
  have hr0 : r.f0 = 0 := hch.1
  obtain ⟨j, h1, h2, h3⟩ := holds_l0 fp (r :: t) (by omega) t 0 r m rfl (by omega)
  refine ⟨j, ?_, h2, h3⟩
  have hrd : rd_T153 (r :: t) 0 = r := rfl
  have hl0 : (0 : Int) < ((r :: t).length : Int) := by simp only [List.length_cons]; omega
  have hng : ¬ r.f0 > fp := by omega
  have hw1 : wrap64 (0 + 1) = ((0 + 1 : Nat) : Int) := by unfold wrap64; omega
  unfold lines_holds.f
  rw [lines_holds.l0, if_pos hl0, if_pos (Int.le_refl _), if_pos hl0, hrd, if_neg hng, hw1]
  exact h1
theorem where_ev {l : List Int} (hb : Bytes l) (hl : l.length ≤ 4398046511103) (p : Nat) (hp : p ≤ l.length) (k : Nat) (hk : l.length + 10 ≤ k) :
  ∃ (j : Nat) (x1 x2 x4 x5 x6 : Int), lines_Where.f k l (p : Int) = some ((floorL l p : Int), x1, x2, (j : Int), x4, x5, x6, 0) ∧ j < (allLines l).length ∧ rd_T153 (allLines l) (j : Int) = selLine (floorL l p : Int) (allLines l) := by
 have hl4 : l.length ≤ 4398046511104 := by omega
 have hfl := (floor_facts hb hl4 p hp).2.1
 obtain ⟨j, h1, h2, h3⟩ := holds_all l hl (floorL l p : Int) (by omega) k (by omega)
 obtain ⟨s0, s1, s2, s3⟩ := sel_facts (l := l) (floorL l p : Int) (allLines l) 0 (allLines_chain l) (Int.le_refl _) (by omega) (by omega)
 have hall : lines_all.f l = some (allLines l) := by unfold lines_all.f; rw [if_pos hl]
 obtain ⟨v1, e1⟩ := size_some (l.take (floorL l p)) (by simp; omega) 2 (.inl rfl)
 obtain ⟨v2, e2⟩ := size_some (l.take (floorL l p)) (by simp; omega) 3 (.inr rfl)
 obtain ⟨v3, e3⟩ := size_some ((l.take (floorL l p)).drop (selLine (floorL l p : Int) (allLines l)).f0.toNat) (by simp; omega) 2 (.inl rfl)
 obtain ⟨v4, e4⟩ := size_some ((l.take (floorL l p)).drop (selLine (floorL l p : Int) (allLines l)).f0.toNat) (by simp; omega) 3 (.inr rfl)
 have c1 : (0 : Int) ≤ (floorL l p : Int) := by omega
 have c2 : (floorL l p : Int) ≤ (l.length : Int) := by omega
 have c3 : (0 : Int) ≤ (j : Int) := by omega
 have c4 : (j : Int) < ((allLines l).length : Int) := by omega
 refine ⟨j, v1, v2, (((l.take (floorL l p)).drop (selLine (floorL l p : Int) (allLines l)).f0.toNat).length : Int), v3, v4, ?_, h2, h3⟩
 unfold lines_Where.f
 rw [floor_ev hb hl4 p hp k (by omega), Option.bind_some]
 dsimp only
 rw [if_pos rfl, hall, Option.bind_some, h1, Option.bind_some, if_pos c1, if_pos c2, if_pos c3, if_pos c4, h3, if_pos s0, if_pos s1, Int.toNat_natCast, e1, Option.bind_some, e2, Option.bind_some, e3, Option.bind_some, e4, Option.bind_some]
theorem line_ev {l : List Int} (hl : l.length ≤ 4398046511103) (j : Nat) (hj : j < (allLines l).length) :
  lines_Line.f l (j : Int) = some ((rd_T153 (allLines l) (j : Int)).f0, (rd_T153 (allLines l) (j : Int)).f1, (rd_T153 (allLines l) (j : Int)).f3, 0) := by
 have hall : lines_all.f l = some (allLines l) := by unfold lines_all.f; rw [if_pos hl]
 unfold lines_Line.f
 rw [hall, Option.bind_some, if_neg (by omega), if_neg (by omega), if_pos (by omega), if_pos (by omega)]
/-- The answer of Column. -/
def columnAt (l : List Int) (a w : Int) : Int × Int :=
 if a < 0 ∨ a > (l.length : Int) ∨ w < 1 ∨ w > 65536 then (0, 2)
 else (colIn l w (floorL l a.toNat) (selLine (floorL l a.toNat : Int) (allLines l)).f0.toNat (selLine (floorL l a.toNat : Int) (allLines l)).f1.toNat, 0)
theorem words_column {l : List Int} (hb : Bytes l) (hl : l.length ≤ 4398046511103) (a w : Int) : words_Column.f l a w = some (columnAt l a w) := by
 unfold words_Column.f columnAt
 rw [outside_ev, Option.bind_some]
 by_cases h : a < 0 ∨ a > (l.length : Int)
 ·rw [if_pos (decide_eq_true h), if_pos (h.elim .inl fun e => .inr (.inl e))]
 rw [if_neg (by rw [decide_eq_false h]; decide)]
 by_cases h2 : w < 1
 ·rw [if_pos h2, if_pos (.inr (.inr (.inl h2)))]
 rw [if_neg h2]
 by_cases h3 : w > 65536
 ·rw [if_pos h3, if_pos (.inr (.inr (.inr h3)))]
 rw [if_neg h3, if_neg (by omega)]
 obtain ⟨p, rfl⟩ : ∃ p : Nat, a = (p : Int) := ⟨a.toNat, by omega⟩
 have hp : p ≤ l.length := by omega
 have hl4 : l.length ≤ 4398046511104 := by omega
 have hfl := (floor_facts hb hl4 p hp).2.1
 obtain ⟨j, x1, x2, x4, x5, x6, hW, hj, hrd⟩ := where_ev hb hl p hp (l.length + 10) (Nat.le_refl _)
 obtain ⟨s0, s1, s2, s3⟩ := sel_facts (l := l) (floorL l p : Int) (allLines l) 0 (allLines_chain l) (Int.le_refl _) (by omega) (by omega)
 rw [hW, Option.bind_some]
 dsimp only
 rw [if_pos rfl, line_ev hl j hj, Option.bind_some, hrd]
 dsimp only
 rw [Int.toNat_natCast]
 generalize selLine (floorL l p : Int) (allLines l) = r at s0 s1 s2 s3 ⊢
 obtain ⟨S, hS⟩ : ∃ S : Nat, r.f0 = (S : Int) := ⟨r.f0.toNat, by omega⟩
 obtain ⟨C, hC⟩ : ∃ C : Nat, r.f1 = (C : Int) := ⟨r.f1.toNat, by omega⟩
 rw [hS, hC] at s2 ⊢
 rw [hS] at s0 s1
 rw [hC] at s3
 have hm : mn (floorL l p : Int) (C : Int) = ((min (floorL l p) C : Nat) : Int) := by unfold mn; split <;> omega
 rw [hm, if_pos (by omega), if_pos (by omega), if_pos (by omega), if_pos hl4, Int.toNat_natCast, Int.toNat_natCast, Int.toNat_natCast]
 rfl
end Go.Proofs.YtijbkiajhicooabDoor.PW
namespace Go.Proofs.YtijbkiajhicooabDoor.Pure
open Go.Proofs.YtijbkiajhicooabDoor.PW Go.RowKit
end Go.Proofs.YtijbkiajhicooabDoor.Pure
namespace Go.Proofs.YtijbkiajhicooabDoor.PW

end Go.Proofs.YtijbkiajhicooabDoor.PW

namespace Go.Proofs.YtijbkiajhicooabDoor.PW
open Go.RowKit Go.Proofs.YtijbkiajhicooabDoorW.PrintWords Go.Proofs.YtijbkiajhicooabDoorW.PrintLast Go.Proofs.YtijbkiajhicooabDoorW.PrintMore
attribute [local go_sem] max2_int min2_int max_two min_two max_three min_three max_four min_four   -- for this text's walks alone
set_option linter.unusedVariables false
set_option linter.unusedSimpArgs false

theorem col_grow {l : List Int} (hb : Bytes l) (hl : l.length ≤ 4398046511104) {S p : Nat} (hSp : S ≤ p) (hp : p < l.length) (hv : Vis l p) (w : Int) (h : rd l (p : Int) ≠ 10 ∧ rd l (p : Int) ≠ 13) :
  colOf w (piece l S (p + widL l p)) = colNext l w p (colOf w (piece l S p)) := by
 obtain ⟨w1, w4, wl⟩ := widL_pos hb p hl hp
 have hv2 := vis_next hb hl hp hv
 have r1 := reach_vis hb hl p (Nat.le_of_lt hp) hv _ S rfl hSp
 have r2 := reach_vis hb hl (p + widL l p) wl hv2 _ S rfl (by omega)
 have s1 := steps_slice hb hl S p (Nat.le_of_lt hp) r1 (Nat.le_refl _)
 have s2 := steps_slice hb hl S (p + widL l p) wl r2 (Nat.le_refl _)
 rw [sf_cons hb hl p hp] at s1
 rw [Nat.sub_self] at s1 s2
 have e := s1.symm.trans s2
 have e2 : (stepsFrom (strOfNums (piece l S p)) 0).map (shiftS S) ++ [((p : Int), ofL l p)] = (stepsFrom (strOfNums (piece l S (p + widL l p))) 0).map (shiftS S) := by
  refine List.append_cancel_right (bs := stepsFrom (strOfNums l) (p + widL l p)) ?_
  rw [List.append_assoc]
  exact e
 have hf : ∀ (xs : List PStep) (c : Int), (xs.map (shiftS S)).foldl (colStep w) c = xs.foldl (colStep w) c := fun xs => by
  induction xs with
  | nil => intro c; rfl
  | cons x t ih => intro c; exact ih _
 have h1 : colOf w (piece l S (p + widL l p)) = (stepsFrom (strOfNums (piece l S (p + widL l p))) 0).foldl (colStep w) 0 := rfl
 have h2 : colOf w (piece l S p) = (stepsFrom (strOfNums (piece l S p)) 0).foldl (colStep w) 0 := rfl
 rw [h1, h2, ← hf (stepsFrom (strOfNums (piece l S (p + widL l p))) 0) 0, ← e2, List.foldl_append, hf, List.foldl_cons, List.foldl_nil]
 exact colStep_next hb hl w p hp h _ _
theorem floor_in {l : List Int} (hb : Bytes l) (hl : l.length ≤ 4398046511104) {p k : Nat} (hp : p < l.length) (hv : Vis l p) (h1 : p ≤ k) (h2 : k < p + widL l p) : floorL l k = p := by
 have hk : k ≤ l.length := by have := (widL_pos hb p hl hp).2.2; omega
 obtain ⟨f1, f2, _⟩ := floor_facts hb hl k hk
 have f3 := edge_floor hb hl k hk p hv h1
 by_cases h : floorL l k = p
 ·exact h
 ·have := inside_step hb hl hp (floorL l k - p) (by omega) (by omega)
  rw [show p + (floorL l k - p) = floorL l k by omega, inside_vis f1] at this
  cases this
theorem floor_edge {l : List Int} (hb : Bytes l) (hl : l.length ≤ 4398046511104) {k : Nat} (hk : k ≤ l.length) (hv : Vis l k) : floorL l k = k := by
 have h1 := edge_floor hb hl k hk k hv (Nat.le_refl _)
 have h2 := (floor_facts hb hl k hk).2.1
 omega
theorem col_here (l : List Int) {p k S C : Nat} (w : Int) (hw1 : 1 ≤ w) (hw2 : w ≤ 65536) (hk : k ≤ l.length) (hf : floorL l k = p) (h0 : (selLine (p : Int) (allLines l)).f0 = (S : Int)) (h1 : (selLine (p : Int) (allLines l)).f1 = (C : Int)) :
  columnAt l (k : Int) w = (colOf w (piece l S (min p C)), 0) := by
 unfold columnAt
 rw [if_neg (by omega), Int.toNat_natCast, hf, h0, h1, Int.toNat_natCast, Int.toNat_natCast]
 rfl
theorem tab_next (w c x : Int) (hw : 1 ≤ w) (h1 : c < x) (h2 : x ≤ (c / w + 1) * w) : x % w = 0 ↔ x = (c / w + 1) * w := by
 constructor
 ·intro h
  have hx := Int.mul_ediv_add_emod x w
  have hc := Int.mul_ediv_add_emod c w
  have hc0 := Int.emod_nonneg c (show w ≠ 0 by omega)
  rw [h, Int.add_zero] at hx
  have a1 : c / w < x / w := Int.lt_of_mul_lt_mul_left (a := w) (by omega) (by omega)
  have a2 : (c / w + 1) * w ≤ x / w * w := Int.mul_le_mul_of_nonneg_right (by omega) (by omega)
  have a3 : x / w * w = w * (x / w) := Int.mul_comm _ _
  omega
 ·intro h
  rw [h]
  exact Int.mul_emod_left _ _
theorem tab_ahead (w c : Int) (hw : 1 ≤ w) : c < (c / w + 1) * w ∧ (c / w + 1) * w ≤ c + w := by
 have hc := Int.mul_ediv_add_emod c w
 have hc0 := Int.emod_nonneg c (show w ≠ 0 by omega)
 have hc1 := Int.emod_lt_of_pos c (show 0 < w by omega)
 have a : (c / w + 1) * w = w * (c / w) + w := by rw [Int.add_mul, Int.one_mul, Int.mul_comm]
 omega
/-- The column behind a tab, and behind another step of content. -/
theorem colNext_eq (l : List Int) (w : Int) (hw1 : 1 ≤ w) (hw2 : w ≤ 65536) (p : Nat) (c : Int) (h0 : 0 ≤ c) (h1 : c ≤ 1099511627776) (h : rd l (p : Int) ≠ 10 ∧ rd l (p : Int) ≠ 13) :
  colNext l w p c = if rd l (p : Int) = 9 then (c / w + 1) * w else c + 1 := by
 have ha := tab_ahead w c hw1
 have hd0 : 0 ≤ c / w := Int.ediv_nonneg h0 (by omega)
 have hd1 : c / w ≤ c := Int.ediv_le_self _ h0
 unfold colNext
 by_cases g : rd l (p : Int) = 9
 ·rw [if_pos g, if_pos g, Int.tdiv_eq_ediv_of_nonneg h0, wrap64_small (n := c / w) (by omega) (by omega), wrap64_small (n := c / w + 1) (by omega) (by omega), wrap64_small (by omega) (by omega)]
 ·rw [if_neg g, if_neg g, if_neg (fun e => e.elim h.1 h.2), wrap64_small (by omega) (by omega)]

end Go.Proofs.YtijbkiajhicooabDoor.PW

namespace Go.Proofs.YtijbkiajhicooabDoor.PW
open Go.RowKit Go.Proofs.YtijbkiajhicooabDoorW.PrintWords Go.Proofs.YtijbkiajhicooabDoorW.PrintLast Go.Proofs.YtijbkiajhicooabDoorW.PrintMore
attribute [local go_sem] max2_int min2_int max_two min_two max_three min_three max_four min_four   -- for this text's walks alone
set_option linter.unusedVariables false
set_option linter.unusedSimpArgs false

theorem tabs_at {l : List Int} (hb : Bytes l) (hl : l.length ≤ 4398046511104) (p : Nat) (hp : p < l.length) (hv : Vis l p) : Ev (fun k => step_At.f k l (p : Int)) ((ofL l p).1, (ofL l p).2.1, (ofL l p).2.2, 0) := by
 have hi : insideK l p = 0 := by
  have h1 := edge_floor hb hl p (Nat.le_of_lt hp) p hv (Nat.le_refl _)
  have h2 := insideK_le l p
  unfold floorL at h1
  omega
 refine ⟨9, fun k hk => ?_⟩
 obtain ⟨m, rfl⟩ : ∃ m, k = m + 1 := ⟨k - 1, by omega⟩
 have hin := insideK_ev hb hl p (Nat.le_of_lt hp) m (by omega)
 have c1 : ¬ (p : Int) < 0 := by omega
 have c2 : ¬ (p : Int) ≥ (l.length : Int) := by omega
 show step_At.f (m + 1) l (p : Int) = _
 unfold step_At.f
 rw [if_neg c1, decide_eq_false c2, step_At.j0, if_neg (by decide), hin, Option.bind_some, hi, if_neg (by decide), step_at_ev hb hl p hp, Option.bind_some]
theorem rune_nine {l : List Int} (hb : Bytes l) (hl : l.length ≤ 4398046511104) (p : Nat) (hp : p < l.length) : (ofL l p).1 = 9 ↔ rd l (p : Int) = 9 := by
 have h := rune_byte hb hl p hp 9 (by decide) (by decide)
 have hw : (ofL l p).1 = 9 → (ofL l p).2.2 = true := by
  unfold ofL
  by_cases g : longAt l (p : Int) = 0
  ·rw [if_pos g]; intro e; exact absurd e (by decide)
  ·rw [if_neg g]; intro _; rfl
 exact ⟨fun e => h.1 ⟨hw e, e⟩, fun e => (h.2 e).2⟩
section
variable {l : List Int} (hl : l.length ≤ 1048576) (w : Int) (hw1 : 1 ≤ w) (hw2 : w ≤ 65536) (R : List S62) (x8 : Nat)
include hw1 in
theorem tabs_l3 (T c : Int) (hT : T = (c / w + 1) * w) (hT2 : T ≤ 4398046511104) (h0 : 0 ≤ c) (p wd rn : Int) (wh : Bool) {v : Bool} (h : Ev (fun k => galleylaw22_WordsTabs.l1 k l w R (x8 : Int) T (wrap64 (p + wd))) v) :
  ∀ (n : Nat) (x : Int), (T - x).toNat = n → c < x → x ≤ T → Ev (fun k => galleylaw22_WordsTabs.l3 k l w R (x8 : Int) x p c rn wd wh) v := by
 have hw0 : ¬ w = 0 := by omega
 intro n
 induction n with
 | zero =>
  intro x hn h1 h2
  have hx : x = T := by omega
  have hm := (tab_next w c x hw1 h1 (by omega)).2 (by omega)
  have ht : Int.tmod x w = 0 := by rw [Int.tmod_eq_emod_of_nonneg (by omega)]; exact hm
  subst hx
  have hc : ¬ x ≤ c := by omega
  refine Ev.succ h (fun k => ?_)
  rw [galleylaw22_WordsTabs.l3, if_neg hw0, if_pos ht, if_neg hc]
 | succ n ih =>
  intro x hn h1 h2
  have hne : ¬ x % w = 0 := fun e => by
   have := (tab_next w c x hw1 h1 (by omega)).1 e
   omega
  have ht : ¬ Int.tmod x w = 0 := by rw [Int.tmod_eq_emod_of_nonneg (by omega)]; exact hne
  have hwx : wrap64 (x + 1) = x + 1 := wrap64_small (by omega) (by omega)
  refine Ev.succ (ih (x + 1) (by omega) (by omega) (by omega)) (fun k => ?_)
  rw [galleylaw22_WordsTabs.l3, if_neg hw0, if_neg ht, hwx]
include hl in
theorem tabs_l2 (hb : Bytes l) (c : Int) (p wd q : Nat) (hq : q = p + wd) (hql : q ≤ l.length) (rn : Int) (wh : Bool) (hcol : ∀ i : Nat, p ≤ i → i < q → columnAt l (i : Int) w = (c, 0)) {v : Bool}
  (h : Ev (fun k => if rn = 9 then (galleylaw22_WordsTabs.l3 k l w R (x8 : Int) (wrap64 (c + 1)) (p : Int) c rn (wd : Int) wh) else (if (wrap64 (c + 1)) ≤ c then (some false) else (galleylaw22_WordsTabs.l1 k l w R (x8 : Int) (wrap64 (c + 1)) (wrap64 ((p : Int) + (wd : Int)))))) v) :
  ∀ (n i : Nat), i + n = q → p ≤ i → Ev (fun k => galleylaw22_WordsTabs.l2 k l w R (x8 : Int) c (p : Int) (i : Int) rn (wd : Int) wh) v := by
 have hwq : wrap64 ((p : Int) + (wd : Int)) = (q : Int) := by rw [wrap64_small (by omega) (by omega)]; omega
 intro n
 induction n with
 | zero =>
  intro i hi' hpi
  have cn : ¬ (i : Int) < (q : Int) := by omega
  refine Ev.succ h (fun k => ?_)
  rw [galleylaw22_WordsTabs.l2, hwq, if_neg cn]
 | succ n ih =>
  intro i hi' hpi
  have cp : (i : Int) < (q : Int) := by omega
  have hwi : wrap64 ((i : Int) + 1) = ((i + 1 : Nat) : Int) := by rw [wrap64_small (by omega) (by omega)]; omega
  have hl3 : l.length ≤ 4398046511103 := by omega
  have ih1 := ih (i + 1) (by omega) (by omega)
  have ha := words_column hb hl3 (i : Int) w
  rw [hcol i hpi (by omega)] at ha
  refine Ev.succ ih1 (fun k => ?_)
  rw [galleylaw22_WordsTabs.l2, hwq, if_pos cp, hwi, own_some l hl3, Option.bind_some, ha, Option.bind_some]
  simp only [if_true]
include hl hw1 hw2 in
theorem tabs_l1 (hb : Bytes l) (r : S62) (hx8 : x8 < R.length) (hr : rd_T62 R (x8 : Int) = r) (S C : Nat) (hS : r.f0 = (S : Int)) (hC : r.f1 = (C : Int)) (hCl : C ≤ l.length) (hvC : Vis l C) (hplain : PlainTo l (S : Int) (C : Int))
  (hsel : ∀ p : Nat, S ≤ p → p < C → (selLine (p : Int) (allLines l)).f0 = (S : Int) ∧ (selLine (p : Int) (allLines l)).f1 = (C : Int)) {v : Bool}
  (h : Ev (fun k => galleylaw22_WordsTabs.l4 k l w R (x8 : Int) (colOf w (piece l S C)) (C : Int)) v) :
  ∀ (n p : Nat) (c : Int), C - p = n → p ≤ C → S ≤ p → Vis l p → Aside0 (colOf w (piece l S p) = c) → 0 ≤ c → c ≤ ((p : Int) - (S : Int)) * 65536 → Ev (fun k => galleylaw22_WordsTabs.l1 k l w R (x8 : Int) c (p : Int)) v := by
 have hl4 : l.length ≤ 4398046511104 := by omega
 have hl3 : l.length ≤ 4398046511103 := by omega
 have cx0 : 0 ≤ (x8 : Int) := by omega
 have cx1 : (x8 : Int) < (R.length : Int) := by omega
 intro n
 induction n using Nat.strongRecOn with
 | _ n ih =>
  intro p c hn hp hSp hv HCOL h0 h1
  by_cases hlt : p < C
  ·have hpl : p < l.length := by omega
   obtain ⟨w1, w4, wl⟩ := widL_pos hb p hl4 hpl
   have hrc : p + widL l p ≤ C := by
    have := reach_vis hb hl4 C hCl hvC _ p rfl hp
    cases this with
    | here => omega
    | step _ _ h => exact h.le
   have hc1 : c ≤ 68719476736 := by omega
   have hcb : c ≤ 1099511627776 := by omega
   obtain ⟨t1, t2⟩ := tab_ahead w c hw1
   have hn2 : C - (p + widL l p) < n := by omega
   have hb2 : c + 65536 ≤ (((p + widL l p : Nat) : Int) - (S : Int)) * 65536 := by omega
   have hSn : S ≤ p + widL l p := by omega
   have hcn : ¬ c + 1 ≤ c := by omega
   have hc9 : c < c + 1 := by omega
   have hT2 : (c / w + 1) * w ≤ 4398046511104 := by omega
   have hT0 : 0 ≤ (c / w + 1) * w := by omega
   have hT1 : (c / w + 1) * w ≤ (((p + widL l p : Nat) : Int) - (S : Int)) * 65536 := by omega
   have hT3 : c + 1 ≤ (c / w + 1) * w := by omega
   have hD0 : 0 ≤ c + 1 := by omega
   have hD1 : c + 1 ≤ (((p + widL l p : Nat) : Int) - (S : Int)) * 65536 := by omega
   have hil : ∀ i : Nat, i < p + widL l p → i ≤ l.length := fun i h => by omega
   have cC : (p : Int) < (C : Int) := by omega
   have cw : ¬ (widL l p : Int) < 1 := by omega
   have pS : (S : Int) ≤ (p : Int) := by omega
   have q1 : -9223372036854775808 ≤ c + 1 := by omega
   have q2 : c + 1 ≤ 9223372036854775807 := by omega
   have q3 : -9223372036854775808 ≤ (p : Int) + (widL l p : Int) := by omega
   have q4 : (p : Int) + (widL l p : Int) ≤ 9223372036854775807 := by omega
   have hwc : wrap64 (c + 1) = c + 1 := wrap64_small q1 q2
   have hwp : wrap64 ((p : Int) + (widL l p : Int)) = ((p + widL l p : Nat) : Int) := wrap64_small q3 q4
   have hcol := HCOL.out
   have hpn := hplain (p : Int) pS cC
   obtain ⟨s0, s1⟩ := hsel p hSp hlt
   have hv2 := vis_next hb hl4 hpl hv
   have hgrow := col_grow hb hl4 hSp hpl hv w hpn
   rw [hcol, colNext_eq l w hw1 hw2 p c h0 hcb hpn] at hgrow
   have hwid := ofL_wid hb hl4 p hpl
   have hrun := rune_nine hb hl4 p hpl
   have hcols : ∀ i : Nat, p ≤ i → i < p + widL l p → columnAt l (i : Int) w = (c, 0) := fun i hi1 hi2 => by
    have hm : min p C = p := Nat.min_eq_left hp
    have := col_here l (p := p) (k := i) w hw1 hw2 (hil i hi2) (floor_in hb hl4 hpl hv hi1 hi2) s0 s1
    rw [hm, hcol] at this
    exact this
   have hrec : Ev (fun k => if (ofL l p).1 = 9 then (galleylaw22_WordsTabs.l3 k l w R (x8 : Int) (wrap64 (c + 1)) (p : Int) c (ofL l p).1 (widL l p : Int) (ofL l p).2.2) else (if (wrap64 (c + 1)) ≤ c then (some false) else (galleylaw22_WordsTabs.l1 k l w R (x8 : Int) (wrap64 (c + 1)) (wrap64 ((p : Int) + (widL l p : Int)))))) v := by
    rw [hwc]
    by_cases g : rd l (p : Int) = 9
    ·rw [if_pos g] at hgrow
     have hih := ih _ hn2 (p + widL l p) _ rfl hrc hSn hv2 ⟨hgrow⟩ hT0 hT1
     rw [← hwp] at hih
     have h3 := tabs_l3 w hw1 R x8 _ c rfl hT2 h0 (p : Int) (widL l p : Int) (ofL l p).1 (ofL l p).2.2 hih _ (c + 1) rfl hc9 hT3
     have hg := hrun.2 g
     simp only [if_pos hg]
     exact h3
    ·rw [if_neg g] at hgrow
     have hih := ih _ hn2 (p + widL l p) _ rfl hrc hSn hv2 ⟨hgrow⟩ hD0 hD1
     rw [← hwp] at hih
     have hg : ¬ (ofL l p).1 = 9 := fun e => g (hrun.1 e)
     simp only [if_neg hg, if_neg hcn]
     exact hih
   have h2 := tabs_l2 hl w R x8 hb c p (widL l p) (p + widL l p) rfl wl (ofL l p).1 (ofL l p).2.2 hcols hrec (widL l p) p rfl (Nat.le_refl _)
   have hAt := tabs_at hb hl4 p hpl hv
   rw [hwid] at hAt
   refine Ev.succ (h := fun k => (galleylaw22_own.f l).bind fun t => (step_At.f k t (p : Int)).bind fun b => if b.2.2.2 = 0 then (galleylaw22_WordsTabs.j3 k l w R (x8 : Int) c (p : Int) (decide (b.2.1 < 1)) b.1 b.2.1 b.2.2.1) else (galleylaw22_WordsTabs.j3 k l w R (x8 : Int) c (p : Int) true b.1 b.2.1 b.2.2.1)) ?_ (fun k => ?_)
   ·refine Ev.bind (Ev.of_eq fun _ => own_some l hl3) ?_
    refine Ev.bind hAt ?_
    simp only [if_true, decide_eq_false cw]
    refine Ev.succ h2 (fun k => ?_)
    rw [galleylaw22_WordsTabs.j3, if_neg (by decide)]
   ·rw [galleylaw22_WordsTabs.l1, if_pos cx0, if_pos cx1, hr, hC, if_pos cC]
  ·obtain rfl : p = C := by omega
   have hcol := HCOL.out
   rw [hcol] at h
   have cC : ¬ (p : Int) < (p : Int) := Int.lt_irrefl _
   refine Ev.succ h (fun k => ?_)
   rw [galleylaw22_WordsTabs.l1, if_pos cx0, if_pos cx1, hr, hC, if_neg cC]
include hl in
theorem tabs_l4 (hb : Bytes l) (r : S62) (hRl : R.length ≤ 4398046511104) (hx8 : x8 < R.length) (hr : rd_T62 R (x8 : Int) = r) (C L : Nat) (hCL : C ≤ L) (hL : L ≤ l.length) (hlast : galleyref07_Last.f r.f0 r.f1 r.f2 = some (L : Int)) (c : Int)
  (hcol : ∀ i : Nat, C ≤ i → i ≤ L → columnAt l (i : Int) w = (c, 0)) {v : Bool} (h : Ev (fun k => galleylaw22_WordsTabs.l0 k l w R ((x8 + 1 : Nat) : Int)) v) :
  ∀ (n i : Nat), i + n = L + 1 → C ≤ i → Ev (fun k => galleylaw22_WordsTabs.l4 k l w R (x8 : Int) c (i : Int)) v := by
 have cx0 : 0 ≤ (x8 : Int) := by omega
 have cx1 : (x8 : Int) < (R.length : Int) := by omega
 intro n
 induction n with
 | zero =>
  intro i hi hC
  have cn : ¬ (i : Int) ≤ (L : Int) := by omega
  have hwx : wrap64 ((x8 : Int) + 1) = ((x8 + 1 : Nat) : Int) := by rw [wrap64_small (by omega) (by omega)]; omega
  refine Ev.succ h (fun k => ?_)
  rw [galleylaw22_WordsTabs.l4, if_pos cx0, if_pos cx1, hr, hlast, Option.bind_some, if_neg cn, hwx]
 | succ n ih =>
  intro i hi hC
  have hl3 : l.length ≤ 4398046511103 := by omega
  have cp : (i : Int) ≤ (L : Int) := by omega
  have hwi : wrap64 ((i : Int) + 1) = ((i + 1 : Nat) : Int) := by rw [wrap64_small (by omega) (by omega)]; omega
  have ha := words_column hb hl3 (i : Int) w
  rw [hcol i hC (by omega)] at ha
  refine Ev.succ (ih (i + 1) (by omega) (by omega)) (fun k => ?_)
  rw [galleylaw22_WordsTabs.l4, if_pos cx0, if_pos cx1, hr, hlast, Option.bind_some, if_pos cp, own_some l hl3, Option.bind_some, ha, Option.bind_some, hwi]
  simp only [if_true]
end
theorem rd_row (A : List S62) (x : S62) (B : List S62) : rd_T62 (A ++ x :: B) (A.length : Int) = x := by
 unfold rd_T62
 rw [List.getD_eq_getElem?_getD, Int.toNat_natCast, List.getElem?_append_right (Nat.le_refl _)]
 simp
theorem tabs_l0 {l : List Int} (hb : Bytes l) (hl : l.length ≤ 1048576) (w : Int) (hw1 : 1 ≤ w) (hw2 : w ≤ 65536) : ∀ (rs : List S153) (S : Nat) (Pre : List S62), LChain l (S : Int) rs → S ≤ l.length → Vis l S →
  (∀ p : Nat, S ≤ p → selLine (p : Int) (allLines l) = selLine (p : Int) rs) → (Pre ++ rs.map rowOf).length ≤ 4398046511104 →
  Ev (fun k => galleylaw22_WordsTabs.l0 k l w (Pre ++ rs.map rowOf) (Pre.length : Int)) true := by
 have hl4 : l.length ≤ 4398046511104 := by omega
 intro rs
 induction rs with
 | nil => intro S Pre h; exact absurd h (by simp [LChain])
 | cons r rs ih =>
  intro S Pre h hSl hvS hsel hlen
  obtain ⟨h0, h1, h2, h3⟩ := h
  obtain ⟨C, hC⟩ : ∃ C : Nat, r.f1 = (C : Int) := ⟨r.f1.toNat, by omega⟩
  have hSC : S ≤ C := by omega
  rw [hC] at h2
  have hx8 : Pre.length < (Pre ++ (r :: rs).map rowOf).length := by simp
  have hr : rd_T62 (Pre ++ (r :: rs).map rowOf) (Pre.length : Int) = rowOf r := rd_row Pre (rowOf r) _
  have cx1 : (Pre.length : Int) < ((Pre ++ (r :: rs).map rowOf).length : Int) := by omega
  have cx0 : 0 ≤ (Pre.length : Int) := by omega
  have e0 : (rowOf r).f0 = (S : Int) := h0
  have e1 : (rowOf r).f1 = (C : Int) := hC
  have hcs : colOf w (piece l S S) = 0 := by
   have e : (stepsFrom (strOfNums (piece l S S)) 0) = [] := sf_nil (l := piece l S S) 0 (by rw [piece_len l S S hSl]; omega)
   show (stepsFrom (strOfNums (piece l S S)) 0).foldl (colStep w) 0 = 0
   rw [e]
   rfl
  have hz : (0 : Int) ≤ ((S : Int) - (S : Int)) * 65536 := by omega
  -- the line at S, and what is behind it
  have fin : ∀ (n L : Nat), C ≤ l.length → Vis l C → C ≤ L → L ≤ l.length → galleyref07_Last.f (rowOf r).f0 (rowOf r).f1 (rowOf r).f2 = some (L : Int) →
    (∀ p : Nat, S ≤ p → p ≤ L → selLine (p : Int) (allLines l) = r) → (∀ i : Nat, C ≤ i → i ≤ L → floorL l i = i) →
    Ev (fun k => galleylaw22_WordsTabs.l0 k l w (Pre ++ (r :: rs).map rowOf) ((Pre.length + 1 : Nat) : Int)) true → Ev (fun k => galleylaw22_WordsTabs.l0 k l w (Pre ++ (r :: rs).map rowOf) (Pre.length : Int)) true := by
   intro n L hCl hvC hCL hL hlast hs hfl hnext
   have hc4 : ∀ i : Nat, C ≤ i → i ≤ L → columnAt l (i : Int) w = (colOf w (piece l S C), 0) := fun i hi1 hi2 => by
    have hsi := hs i (by omega) hi2
    have := col_here l (p := i) (k := i) (S := S) (C := C) w hw1 hw2 (by omega) (hfl i hi1 hi2) (by rw [hsi]; exact h0) (by rw [hsi]; exact hC)
    rwa [Nat.min_eq_right hi1] at this
   have h4 := tabs_l4 hl w (Pre ++ (r :: rs).map rowOf) Pre.length hb (rowOf r) hlen hx8 hr C L hCL hL hlast (colOf w (piece l S C)) hc4 hnext (L + 1 - C) C (by omega) (Nat.le_refl _)
   have hl1 := tabs_l1 hl w hw1 hw2 (Pre ++ (r :: rs).map rowOf) Pre.length hb (rowOf r) hx8 hr S C e0 e1 hCl hvC h2 (fun p hp1 hp2 => by rw [hs p hp1 (by omega)]; exact ⟨h0, hC⟩) h4 (C - S) S 0 rfl hSC (Nat.le_refl _) hvS ⟨hcs⟩ (Int.le_refl _) hz
   refine Ev.succ hl1 (fun k => ?_)
   rw [galleylaw22_WordsTabs.l0, if_pos cx1, if_pos cx0, hr, e0]
  rcases h3 with ⟨h3, h4, _, h6⟩ | ⟨h3, h4⟩
  ·have hCl : C = l.length := by omega
   have hvC : Vis l C := vis_low hb hl4 C (by omega) (.inl hCl)
   have e2 : (rowOf r).f2 = (C : Int) := by show r.f3 = _; omega
   have hlast : galleyref07_Last.f (rowOf r).f0 (rowOf r).f1 (rowOf r).f2 = some (C : Int) := by
    unfold galleyref07_Last.f
    rw [e1, e2, Int.sub_self, if_neg (by unfold wrap64; omega)]
   refine fin 0 C (by omega) hvC (Nat.le_refl _) (by omega) hlast (fun p hp1 _ => ?_) (fun i hi1 hi2 => ?_) ?_
   ·rw [hsel p hp1, h3]
    rfl
   ·obtain rfl : i = C := by omega
    exact floor_edge hb hl4 (by omega) hvC
   ·have cn : ¬ ((Pre.length + 1 : Nat) : Int) < ((Pre ++ (r :: rs).map rowOf).length : Int) := by rw [h3]; simp
    refine Ev.succ (Ev.pure true) (fun k => ?_)
    rw [galleylaw22_WordsTabs.l0, if_neg cn]
  ·obtain ⟨n, hn, hE⟩ := lend_of h3 (by omega)
   rw [hC, Int.toNat_natCast] at hE
   rw [hn] at h4
   obtain ⟨g1, g2, g3, g4, g5⟩ := hE
   have hvC : Vis l C := vis_low hb hl4 C (by omega) (.inr (end_low g3))
   have hv1 := vis_next hb hl4 g1 hvC
   rw [(low_long hb hl4 C g1 (end_low g3)).2] at hv1
   have e2 : (rowOf r).f2 = (n : Int) := hn
   have hsn : ∀ p : Nat, S ≤ p → p < n → selLine (p : Int) (allLines l) = r := fun p hp1 hp2 => by
    rw [hsel p hp1]
    cases rs with
    | nil => rfl
    | cons q t =>
     have hq : q.f0 = (n : Int) := h4.1
     simp only [selLine]
     rw [if_pos (by omega)]
   have hnext : ∀ hSn : S ≤ n, Vis l n → Ev (fun k => galleylaw22_WordsTabs.l0 k l w (Pre ++ (r :: rs).map rowOf) ((Pre.length + 1 : Nat) : Int)) true := fun hSn hvn => by
    have := ih n (Pre ++ [rowOf r]) h4 g2 hvn (fun p hp => by
     rw [hsel p (by omega)]
     cases rs with
     | nil => exact absurd h4 (by simp [LChain])
     | cons q t =>
      have hq : q.f0 = (n : Int) := h4.1
      simp only [selLine]
      rw [if_neg (by omega)]) (by simpa using hlen)
    rw [List.append_assoc] at this
    simpa using this
   rcases g5 with g5 | ⟨g5, g6, g7, g8⟩
   ·have hlast : galleyref07_Last.f (rowOf r).f0 (rowOf r).f1 (rowOf r).f2 = some (C : Int) := by
     unfold galleyref07_Last.f
     rw [e1, e2, if_neg (by unfold wrap64; omega)]
    refine fin 0 C (by omega) hvC (Nat.le_refl _) (by omega) hlast (fun p hp1 hp2 => hsn p hp1 (by omega)) (fun i hi1 hi2 => ?_) (hnext (by omega) (by rw [g5]; exact hv1))
    obtain rfl : i = C := by omega
    exact floor_edge hb hl4 (by omega) hvC
   ·have hv2 := vis_next hb hl4 g6 hv1
    rw [(low_long hb hl4 (C + 1) g6 (end_low (.inl g8))).2] at hv2
    have hlast : galleyref07_Last.f (rowOf r).f0 (rowOf r).f1 (rowOf r).f2 = some ((C + 1 : Nat) : Int) := by
     unfold galleyref07_Last.f
     rw [e1, e2, if_pos (by rw [wrap64_small (by omega) (by omega)]; omega), wrap64_small (by omega) (by omega)]
     rfl
    refine fin 0 (C + 1) (by omega) hvC (by omega) (by omega) hlast (fun p hp1 hp2 => hsn p hp1 (by omega)) (fun i hi1 hi2 => ?_) (hnext (by omega) (by rw [g5]; exact hv2))
    by_cases e : i = C
    ·rw [e]; exact floor_edge hb hl4 (by omega) hvC
    ·obtain rfl : i = C + 1 := by omega
     exact floor_edge hb hl4 (by omega) hv1
end Go.Proofs.YtijbkiajhicooabDoor.PW
namespace Go.Proofs.YtijbkiajhicooabDoor.Pure
open Go.Proofs.YtijbkiajhicooabDoor.PW Go.RowKit
theorem WordsTabs (l0 : List Int) (a1 : Int) (hl : l0.length ≤ 1048576) (hw : ∀ x ∈ l0, (Lit.int .u8 x).wf = true) (_ha1 : (Lit.int .i64 a1).wf = true) : ∃ k, galleylaw22_WordsTabs.f k l0 a1 = some true := by
 have hb := bytes_of_wf hw
 have hl3 : l0.length ≤ 4398046511103 := by omega
 have hout : ∀ b : Bool, b = decide (a1 < 1 ∨ a1 > 65536) → Ev (fun k => galleylaw22_WordsTabs.j0 k l0 a1 b) true := by
  intro b hb'
  by_cases h : a1 < 1 ∨ a1 > 65536
  ·have hc : columnAt l0 0 a1 = (0, 2) := by
    unfold columnAt
    rw [if_pos (.inr (.inr h))]
   have ha := words_column hb hl3 0 a1
   rw [hc] at ha
   refine Ev.succ (Ev.pure true) (fun k => ?_)
   rw [galleylaw22_WordsTabs.j0, if_pos (by rw [hb', decide_eq_true h]), own_some l0 hl3, Option.bind_some, ha, Option.bind_some]
   rfl
  ·have hlen := allLines_length l0
   have hm := tabs_l0 hb hl a1 (by omega) (by omega) (allLines l0) 0 [] (allLines_chain l0) (Nat.zero_le _) (vis_zero l0) (fun _ _ => rfl) (by simp; omega)
   refine Ev.succ (Ev.bind (h := fun k t => galleylaw22_WordsTabs.l0 k l0 a1 t 0) (rows07_ev hl3) hm) (fun k => ?_)
   rw [galleylaw22_WordsTabs.j0, if_neg (by rw [hb', decide_eq_false h]; decide)]
 refine Ev.some (Ev.bind (Ev.of_eq fun _ => rfl) ?_)
 simp only [if_true]
 by_cases h1 : a1 < 1
 ·simp only [if_pos h1]
  exact hout true (decide_eq_true (.inl h1)).symm
 ·simp only [if_neg h1]
  exact hout _ (by by_cases g : a1 > 65536 <;> simp [g, h1])
end Go.Proofs.YtijbkiajhicooabDoor.Pure
namespace Go.Proofs.YtijbkiajhicooabDoor.PW

end Go.Proofs.YtijbkiajhicooabDoor.PW

