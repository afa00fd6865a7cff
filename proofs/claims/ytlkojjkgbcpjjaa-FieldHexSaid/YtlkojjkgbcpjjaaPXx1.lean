-- written by xprint.py, a program of this session, over the kit's print (functions told by hand: see the texts)
import Derived.Test.YtlkojjkgbcpjjaaPXx0
import Derived.Test.YtlkojjkgbcpjjaaIRune
import Derived.Lib.OthersKept
import Derived.Lib.QuoteLoop
import Derived.Test.YtlkojjkgbcpjjaaPAx7
namespace Go.Proofs.Ytlkojjkgbcpjjaa.PX
open Go.RowKit Go.Proofs.Ytlkojjkgbcpjjaa.PA Go.Proofs.YtlkojjkgbcpjjaaW.PrintWords Go.Proofs.YtlkojjkgbcpjjaaW.PrintLast Go.Proofs.YtlkojjkgbcpjjaaW.PrintMore
attribute [local go_sem] max2_int min2_int max_two min_two max_three min_three max_four min_four   -- for this text's walks alone
set_option linter.unusedVariables false
set_option linter.unusedSimpArgs false

/-! ### utf8_ValidRune: function 59 -/
def utf8_ValidRune.j0 : Nat → Int → Bool → Option (Bool)
  | 0, _, _ => none
  | k + 1, x0, x3 => if x3 = true then (some true) else (if 57343 < x0 then (if x0 ≤ 1114111 then (some true) else (some false)) else (some false))
def utf8_ValidRune.f (k : Nat) (a0 : Int) : Option (Bool) := if 0 ≤ a0 then (utf8_ValidRune.j0 k a0 (decide (a0 < 55296))) else (utf8_ValidRune.j0 k a0 false)
theorem utf8_ValidRune.mono_l : ∀ k, (∀ y0 y1, LeO (utf8_ValidRune.j0 k y0 y1) (utf8_ValidRune.j0 (k + 1) y0 y1))
  | 0 => fun _ _ r h => by simp [utf8_ValidRune.j0] at h
  | k + 1 => by
    have ih0 := utf8_ValidRune.mono_l k
    · intro y0 y1
      unfold utf8_ValidRune.j0
      repeat' first
      | (with_reducible exact ih0 _ _)
      | (with_reducible exact LeO.refl _)
      | (with_reducible exact LeO.none _)
      | (with_reducible refine LeO.ite ?_ ?_)
      | (with_reducible refine LeO.bind ?_ (fun _ => ?_))
      | exact ih0 _ _
      | exact LeO.none _
      | refine LeO.ite ?_ ?_
      | refine LeO.bind ?_ (fun _ => ?_)
theorem utf8_ValidRune.mono : ∀ a0 k, LeO (utf8_ValidRune.f k a0) (utf8_ValidRune.f (k + 1) a0) := by
  intro a0 k
  have ih0 := utf8_ValidRune.mono_l k
  unfold utf8_ValidRune.f
  repeat' first
      | (with_reducible exact ih0 _ _)
      | (with_reducible exact LeO.refl _)
      | (with_reducible exact LeO.none _)
      | (with_reducible refine LeO.ite ?_ ?_)
      | (with_reducible refine LeO.bind ?_ (fun _ => ?_))
      | exact ih0 _ _
      | exact LeO.none _
      | refine LeO.ite ?_ ?_
      | refine LeO.bind ?_ (fun _ => ?_)
set_option maxHeartbeats 8000000 in
set_option maxRecDepth 100000 in
theorem utf8_ValidRune.calls (k : Nat) (a0 : Int) (r : Bool) (w : World) (h : utf8_ValidRune.f k a0 = some r) :
    Calls Try.prog 59 #[.int .i32 a0] w fun e w' => e = .returned (.bool r) ∧ Drawn0 w w' := by
  have H : (if 0 ≤ a0 then (utf8_ValidRune.j0 k a0 (decide (a0 < 55296))) else (utf8_ValidRune.j0 k a0 false)) = some r := h
  clear h
  have HC2 := Aside0.mk H
  clear H
  go_enter Try.func59, Try.ntmps59
  go_upto_region 1 with (fail)
  go_cut [3] (fun v3 wc => ∃ (kq : Nat) (x3_1 : Bool), v3 = .bool x3_1 ∧ Aside0 (utf8_ValidRune.j0 kq a0 x3_1 = some r) ∧ Aside0 (kq ≤ k) ∧ Drawn0 w wc)
  case first =>
    have H := HC2.out
    clear HC2
    by_cases c3 : 0 ≤ a0
    · rw [if_pos c3] at H
      have c3b0 : decide (0 ≤ a0) = true := decide_eq_true c3
      clear c3
      (first | rw [c3b0] | (simp only [i64_w, i32_w]; rw [c3b0]) | skip)
      have H' := Aside0.mk H
      clear H
      go_wp2
      go_meet
      case rel => exact ⟨_, (decide (a0 < 55296)), (by first | rfl | (simp; done) | (simp [*]; done)), H', ⟨by first | omega | exact Nat.le_refl _⟩, by repeat (first | exact Drawn0.refl _ | apply Drawn0.step)⟩
    · rw [if_neg c3] at H
      have c3b0 : decide (0 ≤ a0) = false := decide_eq_false c3
      clear c3
      (first | rw [c3b0] | (simp only [i64_w, i32_w]; rw [c3b0]) | skip)
      have H' := Aside0.mk H
      clear H
      go_wp2
      go_meet
      case rel => exact ⟨_, (false), (by first | rfl | (simp; done) | (simp [*]; done)), H', ⟨by first | omega | exact Nat.le_refl _⟩, by repeat (first | exact Drawn0.refl _ | apply Drawn0.step)⟩
  case rest =>
    clear HC2
    try clear p2
    try clear c3
    try clear c3b0
    obtain ⟨kq, x3_1, rfl, HA, HJ1, ⟨mc1, rfl⟩⟩ := hcut
    cases kq with
    | zero => exact absurd HA.out (by simp [utf8_ValidRune.j0])
    | succ kj1 =>
      have H := HA.out
      clear HA
      simp only [utf8_ValidRune.j0] at H
      by_cases c4 : x3_1 = true
      · subst c4
        have H1 : (some true) = some r := by rw [if_pos rfl] at H; exact H
        clear H
        have H := H1
        clear H1
        obtain rfl := Option.some.inj H
        go_wp2
        go_ret
        exact ⟨by first | rfl | (simp; done) | (simp [*]; done), by repeat (first | exact Drawn0.refl _ | apply Drawn0.step)⟩
      · replace c4 := Bool.eq_false_iff.mpr c4
        subst c4
        have H1 : (if 57343 < a0 then (if a0 ≤ 1114111 then (some true) else (some false)) else (some false)) = some r := by rw [if_neg (show ¬ (false = true) by decide)] at H; exact H
        clear H
        have H := H1
        clear H1
        by_cases c5 : 57343 < a0
        · rw [if_pos c5] at H
          have c5b0 : decide (57343 < a0) = true := decide_eq_true c5
          clear c5
          by_cases c6 : a0 ≤ 1114111
          · rw [if_pos c6] at H
            have c6b0 : decide (a0 ≤ 1114111) = true := decide_eq_true c6
            clear c6
            obtain rfl := Option.some.inj H
            go_wp2
            go_ret
            exact ⟨by first | rfl | (simp; done) | (simp [*]; done), by repeat (first | exact Drawn0.refl _ | apply Drawn0.step)⟩
          · rw [if_neg c6] at H
            have c6b0 : decide (a0 ≤ 1114111) = false := decide_eq_false c6
            clear c6
            obtain rfl := Option.some.inj H
            go_wp2
            go_ret
            exact ⟨by first | rfl | (simp; done) | (simp [*]; done), by repeat (first | exact Drawn0.refl _ | apply Drawn0.step)⟩
        · rw [if_neg c5] at H
          have c5b0 : decide (57343 < a0) = false := decide_eq_false c5
          clear c5
          obtain rfl := Option.some.inj H
          go_wp2
          go_ret
          exact ⟨by first | rfl | (simp; done) | (simp [*]; done), by repeat (first | exact Drawn0.refl _ | apply Drawn0.step)⟩

/-! ### bytealg_Cutover: function 60 -/
def bytealg_Cutover.f (a0 : Int) : Option (Int) := some (wrap64 (Int.tdiv (wrap64 (a0 + 16)) 8))
set_option maxHeartbeats 8000000 in
set_option maxRecDepth 100000 in
theorem bytealg_Cutover.calls (a0 : Int) (r : Int) (w : World) (h : bytealg_Cutover.f a0 = some r) :
    Calls Try.prog 60 #[.int .i64 a0] w fun e w' => e = .returned (.int .i64 r) ∧ Drawn0 w w' := by
  have H : (some (wrap64 (Int.tdiv (wrap64 (a0 + 16)) 8))) = some r := h
  clear h
  obtain rfl := Option.some.inj H
  go_enter Try.func60, Try.ntmps60
  go_wp2
  go_ret
  exact ⟨by first | rfl | (simp; done) | (simp [*]; done), by repeat (first | exact Drawn0.refl _ | apply Drawn0.step)⟩

-- NOT PRINTED: function 61 (bytealg_IndexString)

-- NOT PRINTED: function 55 (strings_IndexRune)

/-! ### field_Read: function 46, told by hand -/
-- MAKES
-- IMPORT Derived.Test.@N@IRune
-- IMPORT Derived.Lib.OthersKept
-- IMPORT Derived.Lib.QuoteLoop
/-- The signs of a word, read from a number on; none: one is none of them. -/
def readL : List UInt8 → Nat → Option Nat
  | [], w => some w
  | c :: l, w => if c.toNat < 128 ∧ 0 ≤ Lib.indexByte (⟨#[48, 49, 50, 51, 52, 53, 54, 55, 56, 57, 97, 98, 99, 100, 101, 102]⟩ : ByteArray).data.toList c then readL l (w * 16 % 2 ^ 64 + (Lib.indexByte (⟨#[48, 49, 50, 51, 52, 53, 54, 55, 56, 57, 97, 98, 99, 100, 101, 102]⟩ : ByteArray).data.toList c).toNat) else none
def field_Read.f (a0 : ByteArray) : Option (Int × Bool) := if a0.size = 16 then (match readL a0.data.toList 0 with | some w => some ((w : Int), true) | none => some (0, false)) else some (0, false)
theorem idx_lt : ∀ (l : List UInt8) (c : UInt8), Lib.indexByte l c < l.length ∨ l = []
  | [], _ => Or.inr rfl
  | b :: l, c => by
    left
    unfold Lib.indexByte
    split
    · simp
    · split
      · simp; omega
      · rcases idx_lt l c with h | h
        · simp; omega
        · subst h; simp [Lib.indexByte] at *
theorem sg_lt (c : UInt8) : Lib.indexByte (⟨#[48, 49, 50, 51, 52, 53, 54, 55, 56, 57, 97, 98, 99, 100, 101, 102]⟩ : ByteArray).data.toList c < 16 := by
  rcases idx_lt (⟨#[48, 49, 50, 51, 52, 53, 54, 55, 56, 57, 97, 98, 99, 100, 101, 102]⟩ : ByteArray).data.toList c with h | h
  · exact h
  · exact absurd h (by decide)
theorem decode_valid_at (s : ByteArray) (i : Nat) : Lib.validRune ((Utf8.decode s i).1 : Int) = true := by
  have h := Lib.decodeN_valid (s.size - i) (s.get! i).toNat (s.get! (i + 1)).toNat (s.get! (i + 2)).toNat (s.get! (i + 3)).toNat (UInt8.toNat_lt _)
  rw [← Lib.decode_at] at h
  simp only [Lib.validRune, decide_eq_true_eq]
  omega
theorem or_low (w i : Nat) (hi : i < 16) : Go.bits .or .u64 ((w * 16 % 2 ^ 64 : Nat) : Int) (i : Int) = ((w * 16 % 2 ^ 64 + i : Nat) : Int) := by
  have hq : w * 16 % 2 ^ 64 = 2 ^ 4 * (w % 2 ^ 60) := by omega
  rw [BitsN.or_nat _ _ (Nat.mod_lt _ (by decide)) (by omega), hq, ← Nat.two_pow_add_eq_or_of_lt (show i < 2 ^ 4 by omega)]
set_option maxHeartbeats 8000000 in
set_option maxRecDepth 100000 in
theorem field_Read.calls (a0 : ByteArray) (r1 : Int) (r2 : Bool) (w : World) (h : field_Read.f a0 = some (r1, r2)) :
    Calls Try.prog 46 #[.string a0] w fun e w' => e = .returned (.tuple #[.int .u64 r1, .bool r2]) ∧ Below w.heap.size w w' := by
  unfold field_Read.f at h
  by_cases hsz : a0.size = 16
  · rw [if_pos hsz] at h
    have hS := Aside0.mk h
    clear h
    have hz := Aside0.mk hsz
    have t0 : ((a0.size : Int) != 16) = false := by simp; omega
    have t1 : (a0.size != 16) = false := by simp; omega
    clear hsz
    go_enter Try.func46, Try.ntmps46
    go_wp2
    go_loopw [4] (fun wv wr => ∃ pos acc : Nat, pos ≤ 16 ∧ wv = .int .u64 acc ∧ wr.heap[w.heap.size]? = some (.stringIter a0 pos) ∧ Below w.heap.size w wr ∧ readL a0.data.toList 0 = readL (a0.data.toList.drop pos) acc) (fun _ wr => 16 - wr.iterPos w.heap.size)
    case atStart =>
      refine ⟨0, 0, by omega, rfl, ?_, (Below.refl _ w).alloc (Nat.le_refl _) _, rfl⟩
      exact World.iter_heap w a0 0
    case round =>
      obtain ⟨pos, acc, hle, rfl, hit, hbw, hrd⟩ := hrel
      by_cases hp : pos < a0.size
      · have hlen : pos < a0.data.toList.length := by simpa using hp
        have hdrop : a0.data.toList.drop pos = a0[pos] :: a0.data.toList.drop (pos + 1) := by rw [List.drop_eq_getElem_cons hlen]; rfl
        rw [hdrop, readL] at hrd
        obtain ⟨c, hc⟩ : ∃ c, a0[pos] = c := ⟨_, rfl⟩
        rw [hc] at hrd
        have hzz := hz.out
        have hsg := sg_lt c
        by_cases ha : c.toNat < 128
        · have ha' : (a0[pos]'hp).toNat < 128 := by rw [hc]; exact ha
          have hnx0 : ∀ ty, (Instr.next (.pointer (some ⟨w.heap.size, 0, none⟩)) true ty).run Try.prog wr = _ := fun ty => Lib.run_next_ascii_at wr w.heap.size a0 pos ty hit hp ha'
          have hnx : ∀ ty, (Instr.next (.pointer (some ⟨w.heap.size, 0, none⟩)) true ty).run Try.prog wr = .ok (.tuple #[.bool true, .int .i64 pos, .int .i32 (c.toNat : Nat)]) (wr.iterAt w.heap.size a0 (pos + 1)) := fun ty => by rw [hnx0 ty, hc]
          have hit2 := Lib.iterAt_heap wr w.heap.size a0 pos (pos + 1) hit
          have hbw2 := Lib.below_iterAt hbw (k := w.heap.size) (Nat.le_refl _) a0 (pos + 1)
          have ec : ((c.toNat : Nat) : Int).toNat.toUInt8 = c := by simp
          obtain ⟨d, hd⟩ : ∃ d, Lib.indexByte (⟨#[48, 49, 50, 51, 52, 53, 54, 55, 56, 57, 97, 98, 99, 100, 101, 102]⟩ : ByteArray).data.toList c = d := ⟨_, rfl⟩
          rw [hd] at hsg hrd
          have hir : ∀ W, Calls Try.prog 55 #[.string ⟨#[48, 49, 50, 51, 52, 53, 54, 55, 56, 57, 97, 98, 99, 100, 101, 102]⟩, .int .i32 ((c.toNat : Nat) : Int)] W fun e w' => e = .returned (.int .i64 d) ∧ W = w' := fun W =>
            (Try.strings_IndexRune_ascii _ _ W (by omega) (by omega)).mono fun e w' ⟨h1, h2⟩ => ⟨by rw [h1, ec, hd], h2.symm⟩
          have HR := Aside0.mk hir
          clear hir hnx0 hd ec hc hdrop hlen ha'
          by_cases hneg : d < 0
          · rw [if_neg (by omega)] at hrd
            have hS1 := hS.out
            rw [hrd] at hS1
            cases hS1
            have HRD := Aside0.mk hrd
            clear hrd hS hzz
            go_wp2_with (first | (go_at_call 55; refine (HR.out _).mono ?_; rintro e w' ⟨rfl, rfl⟩))
            go_ret2
            exact ⟨rfl, hbw2⟩
          · obtain ⟨i, rfl⟩ : ∃ i : Nat, d = i := ⟨d.toNat, by omega⟩
            rw [if_pos ⟨ha, by omega⟩, Int.toNat_natCast] at hrd
            have HRD := Aside0.mk hrd
            have ho := or_low acc i (by omega)
            have e16 : IntKind.u64.wrap ((acc : Int) * 16) = ((acc * 16 % 2 ^ 64 : Nat) : Int) := by rw [IntKind.wrap_u64]; omega
            rw [← e16] at ho
            have HO := Aside0.mk ho
            have hpl : pos + 1 ≤ 16 := by omega
            have hpm : 16 - (pos + 1) < 16 - pos := by omega
            clear hrd ho e16 hzz
            go_wp2_with (first | (go_at_call 55; refine (HR.out _).mono ?_; rintro e w' ⟨rfl, rfl⟩))
            go_roundw
            case rel =>
              refine ⟨pos + 1, acc * 16 % 2 ^ 64 + i, hpl, ?_, hit2, hbw2, HRD.out⟩
              rw [HO.out]
            case measure =>
              simp only [World.iterPos, hit2, hit]
              exact hpm
        · rw [if_neg (by omega)] at hrd
          have hS1 := hS.out
          rw [hrd] at hS1
          cases hS1
          have ha' : 128 ≤ (a0[pos]'hp).toNat := by rw [hc]; omega
          have hhi := decode_high a0 pos hp ha'
          have hval := decode_valid_at a0 pos
          have hnx : ∀ ty, (Instr.next (.pointer (some ⟨w.heap.size, 0, none⟩)) true ty).run Try.prog wr = _ := fun ty => Lib.run_next_any_at wr w.heap.size a0 pos ty hit hp
          have hit2 := Lib.iterAt_heap wr w.heap.size a0 pos (pos + (Utf8.decode a0 pos).2) hit
          have hbw2 := Lib.below_iterAt hbw (k := w.heap.size) (Nat.le_refl _) a0 (pos + (Utf8.decode a0 pos).2)
          have hir : ∀ W, Calls Try.prog 55 #[.string ⟨#[48, 49, 50, 51, 52, 53, 54, 55, 56, 57, 97, 98, 99, 100, 101, 102]⟩, .int .i32 (((Utf8.decode a0 pos).1 : Nat) : Int)] W fun e w' => e = .returned (.int .i64 (-1)) ∧ Below W.heap.size W w' := fun W =>
            IR.ir_high _ W (by omega) hval
          have HR := Aside0.mk hir
          clear hir hval hrd hS hc hdrop hzz
          go_wp2_with (first | (go_at_call 55; refine (HR.out _).mono ?_; rintro e w' ⟨rfl, hb3⟩))
          go_ret2
          refine ⟨rfl, hbw2.trans (hb3.mono ?_)⟩
          rw [Lib.iterAt_size]
          exact hbw.size
      · have hp2 : ¬ pos < a0.size := hp
        have hnx : ∀ ty, (Instr.next (.pointer (some ⟨w.heap.size, 0, none⟩)) true ty).run Try.prog wr = _ := fun ty => Lib.run_next_end_at wr w.heap.size a0 pos ty hit hp
        rw [List.drop_of_length_le (by simp; omega), readL] at hrd
        have hS1 := hS.out
        rw [hrd] at hS1
        cases hS1
        clear hrd hS
        go_wp2
        go_ret2
        exact ⟨rfl, hbw⟩
  · rw [if_neg hsz] at h
    cases h
    have t0 : ((a0.size : Int) != 16) = true := by simp; omega
    have t1 : (a0.size != 16) = true := by simp; omega
    clear hsz
    go_enter Try.func46, Try.ntmps46
    go_wp2
    go_ret2
    exact ⟨rfl, Below.refl _ _⟩

end Go.Proofs.Ytlkojjkgbcpjjaa.PX
