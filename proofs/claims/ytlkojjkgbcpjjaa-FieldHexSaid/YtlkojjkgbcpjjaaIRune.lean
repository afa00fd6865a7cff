/- strings.IndexRune of a rune beyond ASCII in the sixteen signs: it is not there. -/
import Derived.Test.YtlkojjkgbcpjjaaShelf
import Derived.Test.YtlkojjkgbcpjjaaFieldG
import Derived.Laws.Runes
import Derived.Lib.RuneBytes
import Derived.WalkMore
namespace Go.Proofs.Ytlkojjkgbcpjjaa.IR
open Go.RowKit Go.Proofs.YtlkojjkgbcpjjaaW.PrintWords Go.Proofs.YtlkojjkgbcpjjaaW.PrintLast Go.Proofs.YtlkojjkgbcpjjaaW.PrintMore
set_option linter.unusedVariables false
set_option linter.unusedSimpArgs false
abbrev sg : ByteArray := ⟨#[48, 49, 50, 51, 52, 53, 54, 55, 56, 57, 97, 98, 99, 100, 101, 102]⟩
theorem ir_none (s : ByteArray) (hs : ∀ x ∈ s.data.toList, x.toNat < 128) (a e : Nat) (c : UInt8) (hc : 128 ≤ c.toNat) : Lib.indexByte (s.extract a e).data.toList c = -1 := by
  rw [← Lib.firstIdx_eq]
  exact firstIdx_ascii s a e c hs hc
theorem sg_low : ∀ x ∈ (⟨#[48, 49, 50, 51, 52, 53, 54, 55, 56, 57, 97, 98, 99, 100, 101, 102]⟩ : ByteArray).data.toList, x.toNat < 128 := by decide
set_option maxHeartbeats 8000000 in
set_option maxRecDepth 100000 in
theorem ir_two (r : Int) (w : World) (b0 b1 : UInt8) (h128 : 128 ≤ r) (hne : r ≠ 65533) (hv : Lib.validRune r = true) (he : Utf8.encode r = ⟨#[b0, b1]⟩) (hb : 128 ≤ b1.toNat) :
    Calls Try.prog 55 #[.string ⟨#[48, 49, 50, 51, 52, 53, 54, 55, 56, 57, 97, 98, 99, 100, 101, 102]⟩, .int .i32 r] w fun e w' => e = .returned (.int .i64 (-1)) ∧ Drawn0 w w' := by
  have c1 : decide (0 ≤ r) = true := by simp; omega
  have c2 : decide (r < 128) = false := by simp; omega
  have c3 : (r == 65533) = false := by simpa using hne
  have hv' := Aside0.mk hv
  clear hv hne
  have hcv : ∀ wx, (convert 21 9 (.int .i32 r)).run Try.prog wx = .ok (.string ⟨#[b0, b1]⟩) wx := fun wx => by
    rw [show (⟨#[b0, b1]⟩ : ByteArray) = Utf8.encode r from he.symm]
    exact run_convert_int_string _ _ _ _ _ (by rw [Try.underlying21]; rfl) Try.underlying9
  clear he
  have n1 : ((((⟨#[48, 49, 50, 51, 52, 53, 54, 55, 56, 57, 97, 98, 99, 100, 101, 102]⟩ : ByteArray)[1]'(by decide)).toNat : Int) != ((((⟨#[b0, b1]⟩ : ByteArray)[1]'(by exact Nat.lt_add_one _)).toNat : Int))) = true := by
    show ((49 : Int) != (b1.toNat : Int)) = true
    simp; omega
  have hix := Aside0.mk (ir_none ⟨#[48, 49, 50, 51, 52, 53, 54, 55, 56, 57, 97, 98, 99, 100, 101, 102]⟩ sg_low 2 16 ((b1.toNat : Int)).toNat.toUInt8 (by simp; omega))
  clear hb
  go_enter Try.func55, Try.ntmps55
  go_wp2_with (first | (go_at_call 59; refine (Try.utf8_ValidRune r _).mono ?_; rintro e w' ⟨rfl, hw⟩; rw [hw, hv'.out]; clear hw))
  go_step3
  go_wp2
  refine wp_loop_rounds 1 ?_
  rw [rounds_succ]
  go_wp2
  go_step3
  go_wp2
  go_quiet (fail)
  go_wp2
  go_quiet ((go_at_call 58; refine (Try.strings_IndexByte _ _ _).mono ?_; rintro e w' ⟨rfl, hw⟩; subst hw; exact ⟨congrArg (fun z : Int => Ending.returned (Value.int .i64 z)) hix.out, _, rfl⟩))
  go_wp2
  rw [Exit.noGoto_ret]
  go_simp
  go_ret
  exact ⟨rfl, by repeat (first | exact Drawn0.refl _ | apply Drawn0.step)⟩
set_option maxHeartbeats 8000000 in
set_option maxRecDepth 100000 in
theorem ir_three (r : Int) (w : World) (b0 b1 b2 : UInt8) (h128 : 128 ≤ r) (hne : r ≠ 65533) (hv : Lib.validRune r = true) (he : Utf8.encode r = ⟨#[b0, b1, b2]⟩) (hb : 128 ≤ b2.toNat) :
    Calls Try.prog 55 #[.string ⟨#[48, 49, 50, 51, 52, 53, 54, 55, 56, 57, 97, 98, 99, 100, 101, 102]⟩, .int .i32 r] w fun e w' => e = .returned (.int .i64 (-1)) ∧ Drawn0 w w' := by
  have c1 : decide (0 ≤ r) = true := by simp; omega
  have c2 : decide (r < 128) = false := by simp; omega
  have c3 : (r == 65533) = false := by simpa using hne
  have hv' := Aside0.mk hv
  clear hv hne
  have hcv : ∀ wx, (convert 21 9 (.int .i32 r)).run Try.prog wx = .ok (.string ⟨#[b0, b1, b2]⟩) wx := fun wx => by
    rw [show (⟨#[b0, b1, b2]⟩ : ByteArray) = Utf8.encode r from he.symm]
    exact run_convert_int_string _ _ _ _ _ (by rw [Try.underlying21]; rfl) Try.underlying9
  clear he
  have n1 : ((((⟨#[48, 49, 50, 51, 52, 53, 54, 55, 56, 57, 97, 98, 99, 100, 101, 102]⟩ : ByteArray)[2]'(by decide)).toNat : Int) != ((((⟨#[b0, b1, b2]⟩ : ByteArray)[2]'(by exact Nat.lt_add_one _)).toNat : Int))) = true := by
    show ((50 : Int) != (b2.toNat : Int)) = true
    simp; omega
  have hix := Aside0.mk (ir_none ⟨#[48, 49, 50, 51, 52, 53, 54, 55, 56, 57, 97, 98, 99, 100, 101, 102]⟩ sg_low 3 16 ((b2.toNat : Int)).toNat.toUInt8 (by simp; omega))
  clear hb
  go_enter Try.func55, Try.ntmps55
  go_wp2_with (first | (go_at_call 59; refine (Try.utf8_ValidRune r _).mono ?_; rintro e w' ⟨rfl, hw⟩; rw [hw, hv'.out]; clear hw))
  go_step3
  go_wp2
  refine wp_loop_rounds 1 ?_
  rw [rounds_succ]
  go_wp2
  go_step3
  go_wp2
  go_quiet (fail)
  go_wp2
  go_quiet ((go_at_call 58; refine (Try.strings_IndexByte _ _ _).mono ?_; rintro e w' ⟨rfl, hw⟩; subst hw; exact ⟨congrArg (fun z : Int => Ending.returned (Value.int .i64 z)) hix.out, _, rfl⟩))
  go_wp2
  rw [Exit.noGoto_ret]
  go_simp
  go_ret
  exact ⟨rfl, by repeat (first | exact Drawn0.refl _ | apply Drawn0.step)⟩
set_option maxHeartbeats 8000000 in
set_option maxRecDepth 100000 in
theorem ir_four (r : Int) (w : World) (b0 b1 b2 b3 : UInt8) (h128 : 128 ≤ r) (hne : r ≠ 65533) (hv : Lib.validRune r = true) (he : Utf8.encode r = ⟨#[b0, b1, b2, b3]⟩) (hb : 128 ≤ b3.toNat) :
    Calls Try.prog 55 #[.string ⟨#[48, 49, 50, 51, 52, 53, 54, 55, 56, 57, 97, 98, 99, 100, 101, 102]⟩, .int .i32 r] w fun e w' => e = .returned (.int .i64 (-1)) ∧ Drawn0 w w' := by
  have c1 : decide (0 ≤ r) = true := by simp; omega
  have c2 : decide (r < 128) = false := by simp; omega
  have c3 : (r == 65533) = false := by simpa using hne
  have hv' := Aside0.mk hv
  clear hv hne
  have hcv : ∀ wx, (convert 21 9 (.int .i32 r)).run Try.prog wx = .ok (.string ⟨#[b0, b1, b2, b3]⟩) wx := fun wx => by
    rw [show (⟨#[b0, b1, b2, b3]⟩ : ByteArray) = Utf8.encode r from he.symm]
    exact run_convert_int_string _ _ _ _ _ (by rw [Try.underlying21]; rfl) Try.underlying9
  clear he
  have n1 : ((((⟨#[48, 49, 50, 51, 52, 53, 54, 55, 56, 57, 97, 98, 99, 100, 101, 102]⟩ : ByteArray)[3]'(by decide)).toNat : Int) != ((((⟨#[b0, b1, b2, b3]⟩ : ByteArray)[3]'(by exact Nat.lt_add_one _)).toNat : Int))) = true := by
    show ((51 : Int) != (b3.toNat : Int)) = true
    simp; omega
  have hix := Aside0.mk (ir_none ⟨#[48, 49, 50, 51, 52, 53, 54, 55, 56, 57, 97, 98, 99, 100, 101, 102]⟩ sg_low 4 16 ((b3.toNat : Int)).toNat.toUInt8 (by simp; omega))
  clear hb
  go_enter Try.func55, Try.ntmps55
  go_wp2_with (first | (go_at_call 59; refine (Try.utf8_ValidRune r _).mono ?_; rintro e w' ⟨rfl, hw⟩; rw [hw, hv'.out]; clear hw))
  go_step3
  go_wp2
  refine wp_loop_rounds 1 ?_
  rw [rounds_succ]
  go_wp2
  go_step3
  go_wp2
  go_quiet (fail)
  go_wp2
  go_quiet ((go_at_call 58; refine (Try.strings_IndexByte _ _ _).mono ?_; rintro e w' ⟨rfl, hw⟩; subst hw; exact ⟨congrArg (fun z : Int => Ending.returned (Value.int .i64 z)) hix.out, _, rfl⟩))
  go_wp2
  rw [Exit.noGoto_ret]
  go_simp
  go_ret
  exact ⟨rfl, by repeat (first | exact Drawn0.refl _ | apply Drawn0.step)⟩
theorem enc_cases (r : Int) (h128 : 128 ≤ r) (hv : Utf8.valid r = true) : (∃ b0 b1 : UInt8, Utf8.encode r = ⟨#[b0, b1]⟩ ∧ 128 ≤ b1.toNat) ∨ (∃ b0 b1 b2 : UInt8, Utf8.encode r = ⟨#[b0, b1, b2]⟩ ∧ 128 ≤ b2.toNat) ∨ (∃ b0 b1 b2 b3 : UInt8, Utf8.encode r = ⟨#[b0, b1, b2, b3]⟩ ∧ 128 ≤ b3.toNat) := by
  have hc : ¬ r.toNat < 128 := by omega
  unfold Utf8.encode
  simp only [hv, if_true, hc, if_false]
  split
  · exact Or.inl ⟨_, _, rfl, by simp; omega⟩
  · split
    · exact Or.inr (Or.inl ⟨_, _, _, rfl, by simp; omega⟩)
    · exact Or.inr (Or.inr ⟨_, _, _, _, rfl, by simp; omega⟩)
set_option maxHeartbeats 8000000 in
set_option maxRecDepth 100000 in
theorem ir_err (w : World) :
    Calls Try.prog 55 #[.string ⟨#[48, 49, 50, 51, 52, 53, 54, 55, 56, 57, 97, 98, 99, 100, 101, 102]⟩, .int .i32 65533] w fun e w' => e = .returned (.int .i64 (-1)) ∧ Below w.heap.size w w' := by
  go_enter Try.func55, Try.ntmps55
  go_wp2
  go_loopw [] (fun wr => ∃ pos : Nat, pos ≤ 16 ∧ wr.heap[w.heap.size]? = some (.stringIter ⟨#[48, 49, 50, 51, 52, 53, 54, 55, 56, 57, 97, 98, 99, 100, 101, 102]⟩ pos) ∧ Below w.heap.size w wr) (fun wr => 16 - wr.iterPos w.heap.size)
  case atStart =>
    refine ⟨0, by omega, ?_, (Below.refl _ w).alloc (Nat.le_refl _) _⟩
    exact World.iter_heap w ⟨#[48, 49, 50, 51, 52, 53, 54, 55, 56, 57, 97, 98, 99, 100, 101, 102]⟩ 0
  case round =>
    obtain ⟨pos, hle, hit, hbw⟩ := hrel
    by_cases hp : pos < 16
    · have hlow : ((⟨#[48, 49, 50, 51, 52, 53, 54, 55, 56, 57, 97, 98, 99, 100, 101, 102]⟩ : ByteArray)[pos]'(by exact hp)).toNat < 128 := sg_low _ (Array.getElem_mem_toList (xs := (⟨#[48, 49, 50, 51, 52, 53, 54, 55, 56, 57, 97, 98, 99, 100, 101, 102]⟩ : ByteArray).data) hp)
      have hnx : ∀ ty, (Instr.next (.pointer (some ⟨w.heap.size, 0, none⟩)) true ty).run Try.prog wr = _ := fun ty => Lib.run_next_ascii_at wr w.heap.size ⟨#[48, 49, 50, 51, 52, 53, 54, 55, 56, 57, 97, 98, 99, 100, 101, 102]⟩ pos ty hit hp hlow
      have hit2 := Lib.iterAt_heap wr w.heap.size ⟨#[48, 49, 50, 51, 52, 53, 54, 55, 56, 57, 97, 98, 99, 100, 101, 102]⟩ pos (pos + 1) hit
      have hbw2 := Lib.below_iterAt hbw (k := w.heap.size) (Nat.le_refl _) ⟨#[48, 49, 50, 51, 52, 53, 54, 55, 56, 57, 97, 98, 99, 100, 101, 102]⟩ (pos + 1)
      have hne : (((((⟨#[48, 49, 50, 51, 52, 53, 54, 55, 56, 57, 97, 98, 99, 100, 101, 102]⟩ : ByteArray)[pos]'(by exact hp)).toNat : Nat) : Int) == 65533) = false := by simp; omega
      clear hlow
      go_wp2
      go_roundw
      case rel => exact ⟨pos + 1, by omega, hit2, hbw2⟩
      case measure =>
        simp only [World.iterPos, hit2, hit]
        omega
    · have hnx : ∀ ty, (Instr.next (.pointer (some ⟨w.heap.size, 0, none⟩)) true ty).run Try.prog wr = _ := fun ty => Lib.run_next_end_at wr w.heap.size ⟨#[48, 49, 50, 51, 52, 53, 54, 55, 56, 57, 97, 98, 99, 100, 101, 102]⟩ pos ty hit hp
      go_wp2
      go_ret
      exact ⟨rfl, hbw⟩
theorem ir_high (r : Int) (w : World) (h128 : 128 ≤ r) (hv : Lib.validRune r = true) :
    Calls Try.prog 55 #[.string ⟨#[48, 49, 50, 51, 52, 53, 54, 55, 56, 57, 97, 98, 99, 100, 101, 102]⟩, .int .i32 r] w fun e w' => e = .returned (.int .i64 (-1)) ∧ Below w.heap.size w w' := by
  by_cases h : r = 65533
  · subst h; exact ir_err w
  · have hv2 : Utf8.valid r = true := by rw [validRune_eq]; exact hv
    rcases enc_cases r h128 hv2 with ⟨b0, b1, he, hb⟩ | ⟨b0, b1, b2, he, hb⟩ | ⟨b0, b1, b2, b3, he, hb⟩
    · exact (ir_two r w b0 b1 h128 h hv he hb).mono fun e w' ⟨h1, h2⟩ => ⟨h1, h2.below⟩
    · exact (ir_three r w b0 b1 b2 h128 h hv he hb).mono fun e w' ⟨h1, h2⟩ => ⟨h1, h2.below⟩
    · exact (ir_four r w b0 b1 b2 b3 h128 h hv he hb).mono fun e w' ⟨h1, h2⟩ => ⟨h1, h2.below⟩
end Go.Proofs.Ytlkojjkgbcpjjaa.IR
