/- The law FieldHex of layer 1: a word's signs are the reference's, and are read as the word; other texts are none's; for every word and text (its first 20 bytes). -/
import Derived.Test.YtlkojjkgbcpjjaaFieldP
import Derived.Test.YtlkojjkgbcpjjaaPXx2
namespace Go.Proofs.Ytlkojjkgbcpjjaa.Pure
open Go.RowKit Go.Proofs.Ytlkojjkgbcpjjaa.PA Go.Proofs.Ytlkojjkgbcpjjaa.BitsN Go.Proofs.Ytlkojjkgbcpjjaa.FieldG  Go.Proofs.Ytlkojjkgbcpjjaa.FieldP Go.Proofs.Ytlkojjkgbcpjjaa.PX Go.Proofs.YtlkojjkgbcpjjaaW.PrintWords Go.Proofs.YtlkojjkgbcpjjaaW.PrintLast Go.Proofs.YtlkojjkgbcpjjaaW.PrintMore
set_option linter.unusedVariables false
set_option linter.unusedSimpArgs false

theorem hexd_index (n : Nat) (h : n < 16) : Lib.indexByte (⟨#[48, 49, 50, 51, 52, 53, 54, 55, 56, 57, 97, 98, 99, 100, 101, 102]⟩ : ByteArray).data.toList (PA.hexDigit n) = n ∧ (PA.hexDigit n).toNat < 128 := by
  have hc : n = 0 ∨ n = 1 ∨ n = 2 ∨ n = 3 ∨ n = 4 ∨ n = 5 ∨ n = 6 ∨ n = 7 ∨ n = 8 ∨ n = 9 ∨ n = 10 ∨ n = 11 ∨ n = 12 ∨ n = 13 ∨ n = 14 ∨ n = 15 := by omega
  rcases hc with rfl | rfl | rfl | rfl | rfl | rfl | rfl | rfl | rfl | rfl | rfl | rfl | rfl | rfl | rfl | rfl <;> decide
/-- The last m digits of a word. -/
def tail (w : Nat) : Nat → List UInt8
  | 0 => []
  | m + 1 => PA.hexDigit (w / 2 ^ (4 * m) % 16) :: tail w m
theorem tail_length (w m : Nat) : (tail w m).length = m := by
  induction m with
  | zero => rfl
  | succ m ih => simp [tail, ih]
theorem hexN_tail (w j : Nat) (hj : j ≤ 16) : hexN w j ++ tail w (16 - j) = tail w 16 := by
  induction j with
  | zero => rfl
  | succ j ih =>
    rw [hexN_succ, List.append_assoc, ← ih (by omega)]
    congr 1
    rw [show 16 - j = (16 - (j + 1)) + 1 by omega, tail]
    rw [show 4 * (16 - (j + 1)) = 60 - 4 * j by omega]
    rfl
theorem hexN_all (w : Nat) : hexN w 16 = tail w 16 := by
  have := hexN_tail w 16 (Nat.le_refl _)
  simpa [tail] using this
theorem div_step (w m : Nat) : w / 2 ^ (4 * m) = w / 2 ^ (4 * (m + 1)) * 16 + w / 2 ^ (4 * m) % 16 := by
  have : w / 2 ^ (4 * (m + 1)) = w / 2 ^ (4 * m) / 16 := by
    rw [Nat.div_div_eq_div_mul, show (16 : Nat) = 2 ^ 4 from rfl, ← Nat.pow_add]
    rfl
  rw [this]
  omega
theorem div_lt (w m : Nat) (hw : w < 2 ^ 64) : w / 2 ^ (4 * m) < 2 ^ 64 := Nat.lt_of_le_of_lt (Nat.div_le_self _ _) hw
/-- What is written is read. -/
theorem read_tail (w : Nat) (hw : w < 2 ^ 64) (m : Nat) : readL (tail w m) (w / 2 ^ (4 * m)) = some w := by
  induction m with
  | zero => simp [tail, readL]
  | succ m ih =>
    obtain ⟨h1, h2⟩ := hexd_index (w / 2 ^ (4 * m) % 16) (Nat.mod_lt _ (by decide))
    have hd := div_step w m
    have hl := div_lt w m hw
    rw [tail, readL, h1, if_pos ⟨h2, by omega⟩, Int.toNat_natCast]
    have : w / 2 ^ (4 * (m + 1)) * 16 % 2 ^ 64 + w / 2 ^ (4 * m) % 16 = w / 2 ^ (4 * m) := by omega
    rw [this]
    exact ih
theorem idx_digit : ∀ c : UInt8, 0 ≤ Lib.indexByte (⟨#[48, 49, 50, 51, 52, 53, 54, 55, 56, 57, 97, 98, 99, 100, 101, 102]⟩ : ByteArray).data.toList c → PA.hexDigit (Lib.indexByte (⟨#[48, 49, 50, 51, 52, 53, 54, 55, 56, 57, 97, 98, 99, 100, 101, 102]⟩ : ByteArray).data.toList c).toNat = c := by
  intro c
  have : ∀ n : Fin 256, 0 ≤ Lib.indexByte (⟨#[48, 49, 50, 51, 52, 53, 54, 55, 56, 57, 97, 98, 99, 100, 101, 102]⟩ : ByteArray).data.toList (UInt8.ofNat n) → PA.hexDigit (Lib.indexByte (⟨#[48, 49, 50, 51, 52, 53, 54, 55, 56, 57, 97, 98, 99, 100, 101, 102]⟩ : ByteArray).data.toList (UInt8.ofNat n)).toNat = UInt8.ofNat n := by decide +kernel
  have h := this ⟨c.toNat, c.toNat_lt⟩
  simpa using h
/-- What is read was written. -/
theorem read_back : ∀ (l : List UInt8) (acc w : Nat), l.length ≤ 16 → acc < 2 ^ (64 - 4 * l.length) → readL l acc = some w → w < 2 ^ 64 ∧ w / 2 ^ (4 * l.length) = acc ∧ l = tail w l.length
  | [], acc, w, _, ha, h => by
    simp only [readL, Option.some.injEq] at h
    subst h
    exact ⟨by simpa using ha, by simp, rfl⟩
  | c :: l, acc, w, hl, ha, h => by
    rw [readL] at h
    split at h
    case isFalse => cases h
    rename_i hc
    obtain ⟨h1, h2⟩ := hc
    have hd := idx_digit c h2
    have hlt := sg_lt c
    obtain ⟨i, hi⟩ : ∃ i : Nat, Lib.indexByte (⟨#[48, 49, 50, 51, 52, 53, 54, 55, 56, 57, 97, 98, 99, 100, 101, 102]⟩ : ByteArray).data.toList c = i := ⟨(Lib.indexByte (⟨#[48, 49, 50, 51, 52, 53, 54, 55, 56, 57, 97, 98, 99, 100, 101, 102]⟩ : ByteArray).data.toList c).toNat, by omega⟩
    rw [hi, Int.toNat_natCast] at h hd
    rw [hi] at hlt
    simp only [List.length_cons] at hl ha ⊢
    have e1 : 2 ^ (64 - 4 * l.length) = 2 ^ (64 - 4 * (l.length + 1)) * 16 := by
      rw [show (16 : Nat) = 2 ^ 4 from rfl, ← Nat.pow_add]
      congr 1
      omega
    have e2 : 2 ^ (64 - 4 * l.length) ≤ 2 ^ 64 := Nat.pow_le_pow_right (by decide) (by omega)
    have e3 : acc * 16 % 2 ^ 64 = acc * 16 := Nat.mod_eq_of_lt (by omega)
    rw [e3] at h
    obtain ⟨g1, g2, g3⟩ := read_back l (acc * 16 + i) w (by omega) (by omega) h
    have hs := div_step w l.length
    refine ⟨g1, by omega, ?_⟩
    rw [tail, ← g3, show w / 2 ^ (4 * l.length) % 16 = i by omega, hd]
theorem fread (s : ByteArray) : (∃ w : Nat, w < 2 ^ 64 ∧ s.data.toList = hexN w 16 ∧ field_Read.f s = some ((w : Int), true)) ∨ ((∀ w : Nat, w < 2 ^ 64 → s.data.toList ≠ hexN w 16) ∧ field_Read.f s = some (0, false)) := by
  unfold field_Read.f
  by_cases h : s.size = 16
  · have hl : s.data.toList.length = 16 := by simpa using h
    rw [if_pos h]
    cases hr : readL s.data.toList 0 with
    | some w =>
      obtain ⟨g1, _, g3⟩ := read_back s.data.toList 0 w (by omega) (by rw [hl]; decide) hr
      rw [hl] at g3
      exact Or.inl ⟨w, g1, by rw [hexN_all]; exact g3, rfl⟩
    | none =>
      refine Or.inr ⟨fun w hw e => ?_, rfl⟩
      have := read_tail w hw 16
      rw [← hexN_all, ← e, Nat.div_eq_of_lt hw, hr] at this
      cases this
  · rw [if_neg h]
    refine Or.inr ⟨fun w hw e => h ?_, rfl⟩
    have := congrArg List.length e
    rw [hexN_length] at this
    simpa using this
/-! ### the reference -/
theorem rhex_l0 (w : Nat) (hw : w < 2 ^ 64) (d : Nat) : ∀ (k j : Nat), j ≤ 16 → 16 - j = d → d + 132 ≤ k → lookasideref01_Hex.l0 k w ((hexN w j).map fun c => (c.toNat : Int)) ((15 : Int) - j) = some (strOfNums ((hexN w 16).map fun c => (c.toNat : Int))) := by
  induction d with
  | zero =>
    intro k j hj hd hk
    obtain ⟨k, rfl⟩ : ∃ m, k = m + 1 := ⟨k - 1, by omega⟩
    obtain rfl : j = 16 := by omega
    rw [lookasideref01_Hex.l0, if_neg (by omega)]
  | succ d ih =>
    intro k j hj hd hk
    obtain ⟨k, rfl⟩ : ∃ m, k = m + 1 := ⟨k - 1, by omega⟩
    have c1 : ((15 : Int) - j) ≥ 0 := by omega
    have e1 : wrap64 (4 * ((15 : Int) - j)) = ((60 - 4 * j : Nat) : Int) := by rw [wi _ (by omega) (by omega)]; omega
    have e2 : wrap64 (((15 : Int) - j) - 1) = (15 : Int) - ((j + 1 : Nat) : Int) := by rw [wi _ (by omega) (by omega)]; omega
    have hg := rget_yes (P := 60 - 4 * j) (S := 4) k w (by omega) hw (by omega) (by omega)
    have hr := ih k (j + 1) (by omega) (by omega) (by omega)
    have hlen : ((hexN w j).map fun c => (c.toNat : Int)).length < 140737488355328 := by rw [List.length_map, hexN_length]; omega
    rw [lookasideref01_Hex.l0, if_pos c1, e1, show (4 : Int) = ((4 : Nat) : Int) from rfl, hg, Option.bind_some, if_pos hlen, e2]
    have hv : get w (60 - 4 * j) 4 = w / 2 ^ (60 - 4 * j) % 16 := rfl
    have h16 : w / 2 ^ (60 - 4 * j) % 16 < 16 := Nat.mod_lt _ (by decide)
    rw [hv]
    rw [hexN_succ, List.map_append] at hr
    have hdi := hexDigit_int (w / 2 ^ (60 - 4 * j) % 16) h16
    generalize w / 2 ^ (60 - 4 * j) % 16 = n at *
    by_cases hn : n < 10
    · rw [if_pos hn] at hdi
      have e3 : (IntKind.u64.wrap (48 + (n : Int))) % 256 = ((PA.hexDigit n).toNat : Int) := by rw [IntKind.wrap_u64, hdi]; omega
      rw [if_pos (by omega), e3]
      exact hr
    · rw [if_neg hn] at hdi
      have e3 : (IntKind.u64.wrap (87 + (n : Int))) % 256 = ((PA.hexDigit n).toNat : Int) := by rw [IntKind.wrap_u64, hdi]; omega
      rw [if_neg (by omega), if_pos hlen, e3]
      exact hr
theorem str_back (l : List UInt8) : (strOfNums (l.map fun c => (c.toNat : Int))) = ⟨l.toArray⟩ := by
  unfold strOfNums
  congr 2
  rw [List.map_map]
  conv => rhs; rw [← List.map_id l]
  apply List.map_congr_left
  intro c _
  simp
theorem rhex (k w : Nat) (hw : w < 2 ^ 64) (hk : 150 ≤ k) : lookasideref01_Hex.f k w = some ⟨(hexN w 16).toArray⟩ := by
  unfold lookasideref01_Hex.f
  have := rhex_l0 w hw 16 k 0 (by omega) (by omega) (by omega)
  rw [str_back] at this
  exact this
/-- What the reference makes of a sign. -/
def dig (c : UInt8) : Nat := if 97 ≤ c.toNat then (c.toNat - 87) % 16 else ((2 ^ 64 + c.toNat - 48) % 2 ^ 64) % 16
def foldW (W : Nat) (c : UInt8) : Nat := (W * 16 % 2 ^ 64 + dig c) % 2 ^ 64
theorem dig_hex (n : Nat) (h : n < 16) : dig (PA.hexDigit n) = n := by
  have hc : n = 0 ∨ n = 1 ∨ n = 2 ∨ n = 3 ∨ n = 4 ∨ n = 5 ∨ n = 6 ∨ n = 7 ∨ n = 8 ∨ n = 9 ∨ n = 10 ∨ n = 11 ∨ n = 12 ∨ n = 13 ∨ n = 14 ∨ n = 15 := by omega
  rcases hc with rfl | rfl | rfl | rfl | rfl | rfl | rfl | rfl | rfl | rfl | rfl | rfl | rfl | rfl | rfl | rfl <;> decide
theorem fold_tail (w : Nat) (hw : w < 2 ^ 64) (m : Nat) : (tail w m).foldl foldW (w / 2 ^ (4 * m)) = w := by
  induction m with
  | zero => simp [tail]
  | succ m ih =>
    have hd := div_step w m
    have hl := div_lt w m hw
    rw [tail, List.foldl_cons, foldW, dig_hex _ (Nat.mod_lt _ (by decide))]
    have : (w / 2 ^ (4 * (m + 1)) * 16 % 2 ^ 64 + w / 2 ^ (4 * m) % 16) % 2 ^ 64 = w / 2 ^ (4 * m) := by omega
    rw [this]
    exact ih
theorem wrap_c (c : UInt8) : IntKind.u64.wrap ((c.toNat : Nat) : Int) = ((c.toNat : Nat) : Int) := by
  have := c.toNat_lt
  exact wrapu_nat _ (by omega)
theorem dig_eq (c : UInt8) : (97 ≤ c.toNat → Int.tmod (IntKind.u64.wrap (((c.toNat : Nat) : Int) - 87)) 16 = (dig c : Int)) ∧ (¬ 97 ≤ c.toNat → Int.tmod (IntKind.u64.wrap (((c.toNat : Nat) : Int) - 48)) 16 = (dig c : Int)) := by
  have hc256 := c.toNat_lt
  unfold dig
  constructor
  · intro h
    rw [if_pos h, IntKind.wrap_u64, Int.tmod_eq_emod_of_nonneg (by omega)]
    omega
  · intro h
    rw [if_neg h, IntKind.wrap_u64, Int.tmod_eq_emod_of_nonneg (by omega)]
    omega
theorem fold_eq (W : Nat) (c : UInt8) : IntKind.u64.wrap ((IntKind.u64.wrap (16 * (W : Int))) + (dig c : Int)) = ((foldW W c : Nat) : Int) := by
  unfold foldW
  rw [IntKind.wrap_u64, IntKind.wrap_u64]
  omega
theorem rread_l0 (s : ByteArray) (hs : s.size ≤ 20) (d : Nat) : ∀ (k W i : Nat), W < 2 ^ 64 → i ≤ (s.data.toList.take 16).length → (s.data.toList.take 16).length - i = d → 2 * d + 160 ≤ k →
    ∃ V : Nat, V < 2 ^ 64 ∧ V = ((s.data.toList.take 16).drop i).foldl foldW W ∧ lookasideref01_Read.l0 k s W i = (if s.data.toList = hexN V 16 then some ((V : Int), true) else some (0, false)) := by
  have htl : (s.data.toList.take 16).length = min 16 s.size := by simp
  induction d with
  | zero =>
    intro k W i hW hi hd hk
    obtain ⟨k, rfl⟩ : ∃ m, k = m + 2 := ⟨k - 2, by omega⟩
    refine ⟨W, hW, ?_, ?_⟩
    · rw [List.drop_of_length_le (by omega)]
      rfl
    · have hx := rhex k W hW (by omega)
      have fin : lookasideref01_Read.j1 (k + 1) s W i false = (if s.data.toList = hexN W 16 then some ((W : Int), true) else some (0, false)) := by
        rw [lookasideref01_Read.j1, if_neg Bool.false_ne_true, hx, Option.bind_some]
        rw [ByteArray.toList_eq, ByteArray.toList_eq]
        by_cases he : s.data.toList = hexN W 16
        · rw [if_pos he, if_pos he.symm]
        · rw [if_neg he, if_neg (fun e => he e.symm)]
      rw [lookasideref01_Read.l0]
      by_cases h : (i : Int) < (s.size : Int)
      · rw [if_pos h, decide_eq_false (by omega)]
        exact fin
      · rw [if_neg h]
        exact fin
  | succ d ih =>
    intro k W i hW hi hd hk
    obtain ⟨k, rfl⟩ : ∃ m, k = m + 2 := ⟨k - 2, by omega⟩
    have hi1 : i < s.size := by omega
    have i16 : (i : Int) < 16 := by omega
    have i0 : (0 : Int) ≤ (i : Int) := by omega
    have i1 : (i : Int) < (s.size : Int) := by omega
    have e0 : wrap64 ((i : Int) + 1) = ((i + 1 : Nat) : Int) := by rw [wi _ (by omega) (by omega)]; rfl
    have n1 : i + 1 ≤ (s.data.toList.take 16).length := by omega
    have n2 : (s.data.toList.take 16).length - (i + 1) = d := by omega
    have n3 : 2 * d + 160 ≤ k := by omega
    have hlt : i < (s.data.toList.take 16).length := by omega
    have hdrop : (s.data.toList.take 16).drop i = s[i] :: (s.data.toList.take 16).drop (i + 1) := by
      rw [List.drop_eq_getElem_cons hlt]
      congr 1
      rw [List.getElem_take]
      rfl
    have hbt : bt s (i : Int) = ((s[i].toNat : Nat) : Int) := by
      unfold bt
      rw [dif_pos (by simpa using hi1)]
      rfl
    obtain ⟨c, hc⟩ : ∃ c, s[i] = c := ⟨_, rfl⟩
    rw [hc] at hdrop hbt
    have hc256 := c.toNat_lt
    have hW2 : foldW W c < 2 ^ 64 := Nat.mod_lt _ (by decide)
    obtain ⟨V, hV, hf, hr⟩ := ih k (foldW W c) (i + 1) hW2 n1 n2 n3
    refine ⟨V, hV, ?_, ?_⟩
    · rw [hdrop, List.foldl_cons]
      exact hf
    · have e1 : IntKind.u64.wrap (bt s (i : Int)) = ((c.toNat : Nat) : Int) := by rw [hbt, wrap_c]
      have ed := dig_eq c
      rw [lookasideref01_Read.l0, if_pos i1, decide_eq_true i16, lookasideref01_Read.j1, if_pos rfl, if_pos i0, if_pos i1, e1, e0]
      by_cases h97 : 97 ≤ c.toNat
      · rw [if_pos (show ((c.toNat : Nat) : Int) ≥ 97 from Int.ofNat_le.mpr h97), ed.1 h97, fold_eq]
        exact hr
      · rw [if_neg (show ¬ ((c.toNat : Nat) : Int) ≥ 97 from fun h => h97 (Int.ofNat_le.mp h)), ed.2 h97, fold_eq]
        exact hr
theorem rread (k : Nat) (s : ByteArray) (hs : s.size ≤ 20) (hk : 200 ≤ k) : lookasideref01_Read.f k s = field_Read.f s := by
  unfold lookasideref01_Read.f
  have htl : (s.data.toList.take 16).length = min 16 s.size := by simp
  obtain ⟨V, hV, hf, hr⟩ := rread_l0 s hs (s.data.toList.take 16).length k 0 0 (by decide) (by omega) (by omega) (by omega)
  rw [show ((0 : Nat) : Int) = 0 from rfl] at hr
  rw [hr]
  rcases fread s with ⟨w, hw, he, hfr⟩ | ⟨hno, hfr⟩
  · have : V = w := by
      rw [hf, he, List.drop_zero, List.take_of_length_le (by rw [hexN_length]; omega), hexN_all]
      have := fold_tail w hw 16
      rwa [Nat.div_eq_of_lt hw] at this
    rw [this, if_pos he, hfr]
  · rw [if_neg (hno V hV), hfr]
theorem FieldHex : lookasidelaw01_FieldHex.Pure := by
  intro w s hw0 hs0
  obtain ⟨w, rfl, hw⟩ := wf_u64 hw0
  refine ⟨400, ?_⟩
  unfold lookasidelaw01_FieldHex.f
  have hm : (0 : Int) ≤ mn (s.size : Int) 20 ∧ mn (s.size : Int) 20 ≤ (s.size : Int) ∧ mn (s.size : Int) 20 ≤ 20 := by unfold mn; split <;> omega
  rw [if_pos hm.1, if_pos hm.2.1]
  have hsz : (s.extract 0 (mn (s.size : Int) 20).toNat).size ≤ 20 := by
    rw [ByteArray.size_extract]
    omega
  generalize s.extract 0 (mn (s.size : Int) 20).toNat = t at *
  have h1 : field_Hex.f w = some ⟨(hexN w 16).toArray⟩ := by
    unfold field_Hex.f
    rw [if_pos ⟨by omega, by omega⟩, Int.toNat_natCast]
  have h2 : field_Read.f ⟨(hexN w 16).toArray⟩ = some ((w : Int), true) := by
    rcases fread ⟨(hexN w 16).toArray⟩ with ⟨v, hv, he, hfr⟩ | ⟨hno, _⟩
    · have e : hexN w 16 = hexN v 16 := he
      have a := read_tail w hw 16
      have b := read_tail v hv 16
      rw [← hexN_all, Nat.div_eq_of_lt hw] at a
      rw [← hexN_all, Nat.div_eq_of_lt hv, ← e, a] at b
      rw [hfr, Option.some.inj b]
    · exact absurd rfl (hno w hw)
  rw [h1, Option.bind_some, h2, Option.bind_some]
  rcases hft : field_Read.f t with _ | ⟨a, b⟩
  · rcases fread t with ⟨v, _, _, hfr⟩ | ⟨_, hfr⟩ <;> rw [hfr] at hft <;> cases hft
  · rw [Option.bind_some, rread 400 t hsz (by decide), hft, Option.bind_some, rhex 400 w hw (by decide), Option.bind_some, if_pos rfl, if_pos rfl, if_pos rfl, if_pos rfl, beq_self_eq_true, if_pos rfl, lives, Option.bind_some]
end Go.Proofs.Ytlkojjkgbcpjjaa.Pure
