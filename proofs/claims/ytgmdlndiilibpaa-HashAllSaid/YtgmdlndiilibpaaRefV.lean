/- What the reference answers, of a table whose chains are L: plain laws. -/
import Derived.Test.YtgmdlndiilibpaaAllW
import Derived.Test.YtgmdlndiilibpaaTabV
set_option linter.unusedVariables false
set_option linter.unusedSimpArgs false
namespace Go.Proofs.Ytgmdlndiilibpaa.PH
open Go.RowKit Go.Proofs.YtgmdlndiilibpaaW.PrintWords Go.Proofs.YtgmdlndiilibpaaW.PrintLast Go.Proofs.YtgmdlndiilibpaaW.PrintMore Go.Proofs.Ytgmdlndiilibpaa.Tab Go.Proofs.Ytgmdlndiilibpaa.KeyG
/-- A table's chains, as the document has them. -/
def img (L : List (List Nd)) : List (List S128) := L.map (List.map nd128)
theorem img_len (L : List (List Nd)) : (img L).length = L.length := List.length_map _
theorem rd_img {L : List (List Nd)} {i : Nat} {l : List Nd} (h : L[i]? = some l) : rd_L4 (img L) i = l.map nd128 := by
  simp [rd_L4, img, List.getD_eq_getElem?_getD, List.getElem?_map, h]
theorem img_set (L : List (List Nd)) (i : Nat) (l : List Nd) : (img L).set i (l.map nd128) = img (L.set i l) := by
  simp [img, List.map_set]
theorem at_l0 (a b c : Int) (l : List Nd) (hs : l.length ≤ 1000000000000) : ∀ (k j : Nat), j ≤ l.length → l.length < j + k → (∀ q (hq : q < l.length), q < j → (l[q]'hq).key ≠ (a, b, c)) →
    lookasideref11_at.l0 k (l.map nd128) j a b c = some (if pos (a, b, c) l < l.length then (pos (a, b, c) l : Int) else -1)
  | 0, j, h1, h2, _ => by omega
  | k + 1, j, h1, h2, hno => by
    unfold lookasideref11_at.l0
    rw [List.length_map]
    by_cases hj : j < l.length
    · rw [if_pos (by omega), if_pos (by omega)]
      have hr : rd_T128 (l.map nd128) j = nd128 l[j] := by simp [rd_T128, List.getD_eq_getElem?_getD, List.getElem?_map, List.getElem?_eq_getElem hj]
      rw [hr]
      by_cases he : l[j].key = (a, b, c)
      · have hp := pos_at hj hno he
        rw [hp, if_pos hj]
        simp only [Nd.key, Prod.mk.injEq] at he
        obtain ⟨e1, e2, e3⟩ := he
        rw [if_pos (by simp [nd128, e1, e2, e3])]
      · rw [if_neg (by
          simp only [nd128, Bool.and_eq_true, beq_iff_eq]
          rintro ⟨e1, e2, e3⟩
          exact he (by simp [Nd.key, e1, e2, e3])), wi _ (by omega) (by omega)]
        exact at_l0 a b c l hs k (j + 1) (by omega) (by omega) (fun q hq hqj => by
          rcases Nat.lt_or_ge q j with h | h
          · exact hno q hq h
          · obtain rfl : q = j := by omega
            exact he)
    · rw [if_neg (by omega)]
      have hp : pos (a, b, c) l = l.length := pos_none (fun q hq => hno q hq (by omega))
      rw [hp, if_neg (Nat.lt_irrefl _)]
theorem at_f (a b c : Int) (l : List Nd) (hs : l.length ≤ 1000000000000) (k : Nat) (hk : l.length < k) :
    lookasideref11_at.f k (l.map nd128) a b c = some (if pos (a, b, c) l < l.length then (pos (a, b, c) l : Int) else -1) :=
  at_l0 a b c l hs k 0 (Nat.zero_le _) (by omega) (fun q _ h => by omega)
theorem flat_len_drop {L : List (List Nd)} {j : Nat} (hj : j < L.length) : (L.drop j).flatten.length = L[j].length + (L.drop (j + 1)).flatten.length := by
  rw [List.drop_eq_getElem_cons hj, List.flatten_cons, List.length_append]
theorem len_l0 (bl : Int) (L : List (List Nd)) (hs : L.flatten.length ≤ 1000000000000) (hL : L.length ≤ 10000000) : ∀ (k j : Nat) (x : Nat), j ≤ L.length → L.length < j + k → x + (L.drop j).flatten.length ≤ 1000000000000 →
    lookasideref11_Len.l0 k x j bl (img L) = some ((x + (L.drop j).flatten.length : Nat) : Int)
  | 0, j, x, h1, h2, _ => by omega
  | k + 1, j, x, h1, h2, h3 => by
    unfold lookasideref11_Len.l0
    rw [img_len]
    by_cases hj : j < L.length
    · rw [if_pos (by omega), if_pos (by omega), rd_img (List.getElem?_eq_getElem hj), List.length_map]
      have hd := flat_len_drop hj
      rw [wi _ (by omega) (by omega), wi _ (by omega) (by omega)]
      have := len_l0 bl L hs hL k (j + 1) (x + L[j].length) (by omega) (by omega) (by omega)
      rw [show ((x : Int) + (L[j].length : Int)) = ((x + L[j].length : Nat) : Int) from by omega, show ((j : Int) + 1) = ((j + 1 : Nat) : Int) from by omega, this]
      congr 2
      omega
    · rw [if_neg (by omega), List.drop_of_length_le (by omega)]
      simp
theorem len_f (bl : Int) (L : List (List Nd)) (hs : L.flatten.length ≤ 1000000000000) (hL : L.length ≤ 10000000) (k : Nat) (hk : L.length < k) :
    lookasideref11_Len.f k bl (img L) = some ((L.flatten.length : Nat) : Int) := by
  have := len_l0 bl L hs hL k 0 0 (Nat.zero_le _) (by omega) (by simpa using hs)
  unfold lookasideref11_Len.f
  simpa using this
theorem all_l0 (bl : Int) (L : List (List Nd)) (hs : L.flatten.length ≤ 1000000000000) (hL : L.length ≤ 10000000) : ∀ (k j : Nat), j ≤ L.length → L.length < j + k →
    lookasideref11_All.l0 k ((L.take j).flatten.map nd128) j bl (img L) = some (L.flatten.map nd128)
  | 0, j, h1, h2 => by omega
  | k + 1, j, h1, h2 => by
    unfold lookasideref11_All.l0
    rw [img_len]
    by_cases hj : j < L.length
    · have hg : L[j]? = some L[j] := List.getElem?_eq_getElem hj
      have hsp := flat_split hg
      have hlen : ((L.take j).flatten.length) + L[j].length ≤ L.flatten.length := by
        rw [hsp]; simp only [List.length_append]; omega
      rw [if_pos (by omega), if_pos (by omega), rd_img hg, List.length_map, List.length_map, if_pos (by omega), ← List.map_append, ← flat_take hg, wi _ (by omega) (by omega)]
      exact all_l0 bl L hs hL k (j + 1) (by omega) (by omega)
    · rw [if_neg (by omega), List.take_of_length_le (by omega)]
theorem all_f (bl : Int) (L : List (List Nd)) (hs : L.flatten.length ≤ 1000000000000) (hL : L.length ≤ 10000000) (k : Nat) (hk : L.length < k) :
    lookasideref11_All.f k bl (img L) = some (L.flatten.map nd128) := by
  have := all_l0 bl L hs hL k 0 (Nat.zero_le _) (by omega)
  unfold lookasideref11_All.f
  simpa using this
theorem Gk.rmay {x : S24} (h : Gk x) : lookasideref11_May.f x.f0 x.f1 x.f2 = some true := by
  obtain ⟨g, v, z, rfl, h1, h2, h3, h4⟩ := h
  rw [may_r g v z h2, h4]
theorem Gk.rch {x : S24} (h : Gk x) {N : Nat} (h0 : 0 < N) (hN : N ≤ 10000000) : lookasideref11_Chain.f x.f0 x.f1 x.f2 N = some ((cN x N : Nat) : Int) := by
  obtain ⟨g, v, z, rfl, h1, h2, h3, h4⟩ := h
  exact ch_r g v z N h1 h2 h3 h0 hN
theorem push_f (bl : Int) (L : List (List Nd)) (hL : L.length ≤ 10000000) (y : S24) (v : Int) {c : Nat} {l : List Nd} (hch : lookasideref11_Chain.f y.f0 y.f1 y.f2 (L.length : Int) = some (c : Int)) (hl : L[c]? = some l) (hls : l.length ≤ 1000000000000) (g : Nat) :
    lookasideref11_push.f bl (img L) y.f0 y.f1 y.f2 v = some (bl, img (L.set c (⟨g, y.f0, y.f1, y.f2, v⟩ :: l))) := by
  have hc : c < L.length := (List.getElem?_eq_some_iff.1 hl).1
  unfold lookasideref11_push.f
  rw [img_len, hch]
  simp only [Option.bind_some]
  rw [rd_img hl, if_pos (by omega), if_pos (by omega), if_pos (by simp; omega)]
  unfold lookasideref11_with.f
  rw [img_len, if_pos (by simp; omega)]
  simp only [Option.bind_some, List.nil_append]
  rw [img_len, if_pos (by omega), if_pos (by omega)]
  simp only [Option.bind_some, Int.toNat_natCast]
  rw [← img_set]
  rfl
/-- Put, of a key that may be: it is there. -/
theorem put_f_exist (bl : Int) (L : List (List Nd)) (hL : L.length ≤ 10000000) (y : S24) (v : Int) {c : Nat} {l : List Nd} (hmay : lookasideref11_May.f y.f0 y.f1 y.f2 = some true) (hch : lookasideref11_Chain.f y.f0 y.f1 y.f2 (L.length : Int) = some (c : Int)) (hl : L[c]? = some l)
    (hls : l.length ≤ 1000000000000) (k : Nat) (hk : l.length < k) (hlt : pos (y.f0, y.f1, y.f2) l < l.length) :
    lookasideref11_Put.f k bl (img L) y.f0 y.f1 y.f2 v = some (bl, img L, 9) := by
  have hc : c < L.length := (List.getElem?_eq_some_iff.1 hl).1
  unfold lookasideref11_Put.f
  rw [hmay]
  simp only [Option.bind_some, if_true]
  rw [img_len, hch]
  simp only [Option.bind_some]
  rw [if_pos (by omega), if_pos (by omega), rd_img hl, at_f _ _ _ l hls k hk, if_pos hlt]
  simp only [Option.bind_some]
  rw [if_pos (by omega)]
/-- .. there is no room. -/
theorem put_f_mem (bl : Int) (L : List (List Nd)) (hL : L.length ≤ 10000000) (y : S24) (v : Int) {c : Nat} {l : List Nd} (hmay : lookasideref11_May.f y.f0 y.f1 y.f2 = some true) (hch : lookasideref11_Chain.f y.f0 y.f1 y.f2 (L.length : Int) = some (c : Int)) (hl : L[c]? = some l)
    (hls : L.flatten.length ≤ 1000000000000) (k : Nat) (hk : L.flatten.length < k) (hkL : L.length < k) (hlt : ¬ pos (y.f0, y.f1, y.f2) l < l.length) (hfull : bl ≤ (L.flatten.length : Int)) :
    lookasideref11_Put.f k bl (img L) y.f0 y.f1 y.f2 v = some (bl, img L, 6) := by
  have hc : c < L.length := (List.getElem?_eq_some_iff.1 hl).1
  have hll : l.length ≤ L.flatten.length := by rw [flat_split hl]; simp only [List.length_append]; omega
  unfold lookasideref11_Put.f
  rw [hmay]
  simp only [Option.bind_some, if_true]
  rw [img_len, hch]
  simp only [Option.bind_some]
  rw [if_pos (by omega), if_pos (by omega), rd_img hl, at_f _ _ _ l (by omega) k (by omega), if_neg hlt]
  simp only [Option.bind_some]
  rw [if_neg (by omega), len_f bl L hls hL k hkL]
  simp only [Option.bind_some]
  rw [if_pos (by omega)]
/-- .. it is put. -/
theorem put_f_ok (bl : Int) (L : List (List Nd)) (hL : L.length ≤ 10000000) (y : S24) (v : Int) {c : Nat} {l : List Nd} (hmay : lookasideref11_May.f y.f0 y.f1 y.f2 = some true) (hch : lookasideref11_Chain.f y.f0 y.f1 y.f2 (L.length : Int) = some (c : Int)) (hl : L[c]? = some l)
    (hls : L.flatten.length ≤ 1000000000000) (k : Nat) (hk : L.flatten.length < k) (hkL : L.length < k) (hlt : ¬ pos (y.f0, y.f1, y.f2) l < l.length) (hfull : (L.flatten.length : Int) < bl) (g : Nat) :
    lookasideref11_Put.f k bl (img L) y.f0 y.f1 y.f2 v = some (bl, img (L.set c (⟨g, y.f0, y.f1, y.f2, v⟩ :: l)), 0) := by
  have hc : c < L.length := (List.getElem?_eq_some_iff.1 hl).1
  have hll : l.length ≤ L.flatten.length := by rw [flat_split hl]; simp only [List.length_append]; omega
  unfold lookasideref11_Put.f
  rw [hmay]
  simp only [Option.bind_some, if_true]
  rw [img_len, hch]
  simp only [Option.bind_some]
  rw [if_pos (by omega), if_pos (by omega), rd_img hl, at_f _ _ _ l (by omega) k (by omega), if_neg hlt]
  simp only [Option.bind_some]
  rw [if_neg (by omega), len_f bl L hls hL k hkL]
  simp only [Option.bind_some]
  rw [if_neg (by omega), push_f bl L hL y v hch hl (by omega) g]
  rfl
theorem flat_len_set {L : List (List Nd)} {c : Nat} {l l' : List Nd} (hl : L[c]? = some l) : (L.set c l').flatten.length + l.length = L.flatten.length + l'.length := by
  have hc : c < L.length := (List.getElem?_eq_some_iff.1 hl).1
  have h2 : (L.set c l')[c]? = some l' := List.getElem?_set_self hc
  have e1 := congrArg List.length (flat_split hl)
  have e2 := congrArg List.length (flat_split h2)
  have t1 : (L.set c l').take c = L.take c := by rw [List.take_set, List.set_eq_of_length_le (by simp; omega)]
  have t2 : (L.set c l').drop (c + 1) = L.drop (c + 1) := by rw [List.drop_set, if_pos (by omega)]
  rw [t1, t2] at e2
  simp only [List.length_append] at e1 e2
  omega
end Go.Proofs.Ytgmdlndiilibpaa.PH
