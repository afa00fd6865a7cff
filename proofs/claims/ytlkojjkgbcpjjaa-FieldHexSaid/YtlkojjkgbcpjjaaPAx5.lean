-- written by xprint.py, a program of this session, over the kit's print (functions told by hand: see the texts)
import Derived.Test.YtlkojjkgbcpjjaaPAx0
import Derived.Test.YtlkojjkgbcpjjaaPAx1
import Derived.Test.YtlkojjkgbcpjjaaPAx4
import Derived.Test.YtlkojjkgbcpjjaaShelf
import Derived.Test.YtlkojjkgbcpjjaaFieldG
import Derived.Lib.Builder
import Derived.Laws.Externs
namespace Go.Proofs.Ytlkojjkgbcpjjaa.PA
open Go.RowKit Go.Proofs.YtlkojjkgbcpjjaaW.PrintWords Go.Proofs.YtlkojjkgbcpjjaaW.PrintLast Go.Proofs.YtlkojjkgbcpjjaaW.PrintMore
attribute [local go_sem] max2_int min2_int max_two min_two max_three min_three max_four min_four   -- for this text's walks alone
set_option linter.unusedVariables false
set_option linter.unusedSimpArgs false

/-! ### field_Put: function 38 -/
def field_Put.f (a0 : Int) (a1 : Int) (a2 : Int) (a3 : Int) : Option (Int) := (field_May.f a1 a2).bind fun t170 => (if t170 = true then ((field_Mask.f a1 a2).bind fun t171 => (if 0 ≤ a1 then (some (Go.bits .or .u64 (Go.bits .andNot .u64 a0 t171) (Go.bits .and .u64 (shl .u64 a3 a1) t171))) else (none))) else (some a0))
set_option maxHeartbeats 8000000 in
set_option maxRecDepth 100000 in
theorem field_Put.calls (a0 : Int) (a1 : Int) (a2 : Int) (a3 : Int) (r : Int) (w : World) (h : field_Put.f a0 a1 a2 a3 = some r) :
    Calls Try.prog 38 #[.int .u64 a0, .int .i64 a1, .int .i64 a2, .int .u64 a3] w fun e w' => e = .returned (.int .u64 r) ∧ Drawn0 w w' := by
  have H : ((field_May.f a1 a2).bind fun t170 => (if t170 = true then ((field_Mask.f a1 a2).bind fun t171 => (if 0 ≤ a1 then (some (Go.bits .or .u64 (Go.bits .andNot .u64 a0 t171) (Go.bits .and .u64 (shl .u64 a3 a1) t171))) else (none))) else (some a0))) = some r := h
  clear h
  replace H := Option.bind_eq_some_iff.mp H
  obtain ⟨t170, A50, H⟩ := H
  replace H : (if t170 = true then ((field_Mask.f a1 a2).bind fun t171 => (if 0 ≤ a1 then (some (Go.bits .or .u64 (Go.bits .andNot .u64 a0 t171) (Go.bits .and .u64 (shl .u64 a3 a1) t171))) else (none))) else (some a0)) = some r := H
  have A5 := Aside0.mk A50
  clear A50
  by_cases c6 : t170 = true
  · subst c6
    have H1 : ((field_Mask.f a1 a2).bind fun t171 => (if 0 ≤ a1 then (some (Go.bits .or .u64 (Go.bits .andNot .u64 a0 t171) (Go.bits .and .u64 (shl .u64 a3 a1) t171))) else (none))) = some r := by rw [if_pos rfl] at H; exact H
    clear H
    have H := H1
    clear H1
    replace H := Option.bind_eq_some_iff.mp H
    obtain ⟨t171, A70, H⟩ := H
    replace H : (if 0 ≤ a1 then (some (Go.bits .or .u64 (Go.bits .andNot .u64 a0 t171) (Go.bits .and .u64 (shl .u64 a3 a1) t171))) else (none)) = some r := H
    have A7 := Aside0.mk A70
    clear A70
    by_cases c8 : 0 ≤ a1
    · rw [if_pos c8] at H
      have c8b0 := eq_true c8
      have c8b1 : decide (0 ≤ a1) = true := decide_eq_true c8
      clear c8
      obtain ⟨ji9, hji9⟩ : ∃ j_ : Int, (shl .u64 a3 a1) = j_ := ⟨_, rfl⟩
      replace H : (some (Go.bits .or .u64 (Go.bits .andNot .u64 a0 t171) (Go.bits .and .u64 (ji9) t171))) = some r := by first | (rw [hji9] at H; exact H) | (simp only [hji9] at H ⊢; exact H)
      (try rw [hji9] at A5)
      (try rw [hji9] at A7)
      have hji9_ : (IntKind.u64.wrap (a3 * 2 ^ min a1.toNat 64)) = ji9 := hji9
      have hji9z : a1 ≤ 64 → (IntKind.u64.wrap (a3 * 2 ^ a1.toNat)) = ji9 := shl_small hji9
      obtain rfl := Option.some.inj H
      go_enter Try.func38, Try.ntmps38
      go_wp2_with (first | ((with_reducible refine gate_callee (f := 34) rfl ?_); refine goesL_ (some 12) rfl rfl Try.func34 (by kernel_rfl) rfl #[.int .i64 a1, .int .i64 a2] rfl (by (try simp only [List.map_toArray, List.map_cons, List.map_nil]); first | done | rfl | (simp only [List.length_drop, List.length_take]; rfl)) ?_; (with_reducible refine (field_May.calls a1 a2 true _ A5.out).mono ?_); rintro e w' ⟨rfl, ⟨nd, rfl⟩⟩; refine ⟨_, rfl, ?_⟩) | ((with_reducible refine gate_callee (f := 39) rfl ?_); refine goesL_ (some 17) rfl rfl Try.func39 (by kernel_rfl) rfl #[.int .i64 a1, .int .i64 a2] rfl (by (try simp only [List.map_toArray, List.map_cons, List.map_nil]); first | done | rfl | (simp only [List.length_drop, List.length_take]; rfl)) ?_; (with_reducible refine (field_Mask.calls a1 a2 t171 _ A7.out).mono ?_); rintro e w' ⟨rfl, ⟨nd, rfl⟩⟩; refine ⟨_, rfl, ?_⟩))
      go_ret
      exact ⟨by first | rfl | (simp; done) | (simp only [← hji9] <;> (first | rfl | simp)) | (simp [*]; done), by repeat (first | exact Drawn0.refl _ | apply Drawn0.step)⟩
    · rw [if_neg c8] at H
      exact absurd H (by simp)
  · replace c6 := Bool.eq_false_iff.mpr c6
    subst c6
    have H1 : (some a0) = some r := by rw [if_neg (show ¬ (false = true) by decide)] at H; exact H
    clear H
    have H := H1
    clear H1
    obtain rfl := Option.some.inj H
    go_enter Try.func38, Try.ntmps38
    go_wp2_with (first | ((with_reducible refine gate_callee (f := 34) rfl ?_); refine goesL_ (some 12) rfl rfl Try.func34 (by kernel_rfl) rfl #[.int .i64 a1, .int .i64 a2] rfl (by (try simp only [List.map_toArray, List.map_cons, List.map_nil]); first | done | rfl | (simp only [List.length_drop, List.length_take]; rfl)) ?_; (with_reducible refine (field_May.calls a1 a2 false _ A5.out).mono ?_); rintro e w' ⟨rfl, ⟨nd, rfl⟩⟩; refine ⟨_, rfl, ?_⟩))
    go_ret
    exact ⟨by first | rfl | (simp; done) | (simp [*]; done), by repeat (first | exact Drawn0.refl _ | apply Drawn0.step)⟩

-- NOT PRINTED: function 62 (abi_NoEscape)

-- NOT PRINTED: function 57 (strings_Builder_copyCheck)

-- NOT PRINTED: function 53 (strings_Builder_WriteByte)

-- NOT PRINTED: function 54 (strings_Builder_String)

/-! ### field_Hex: function 45, told by hand -/
-- MAKES
-- IMPORT Derived.Test.@N@Shelf
-- IMPORT Derived.Test.@N@FieldG
-- IMPORT Derived.Lib.Builder
-- IMPORT Derived.Laws.Externs
theorem hx_infoByte : (Try.prog.info? 5).map (fun i => (i.zero, i.size, i.bytes)) = some (some (.int .u8 0), 1, 1) := by kernel_rfl
theorem hx_sizeBuilder : (Try.prog.info? 55).map (·.size) = some 2 := by kernel_rfl
theorem hx_liesBuilder : liesAt Try.prog Try.prog.depth 55 (2 / Try.prog.cellsOf 55) 0 55 1 = true := by kernel_rfl
set_option maxHeartbeats 1000000 in
set_option maxRecDepth 100000 in
/-- copyCheck at a builder that has been used: nothing turns. -/
theorem hx_copyCheck_used (b : Nat) (w : World) (h0 : w.cell? ⟨b, 0, none⟩ = some (.pointer (some ⟨b, 0, none⟩))) :
    Calls Try.prog 57 #[.pointer (some ⟨b, 0, none⟩)] w fun e w' => e = .returned (.tuple #[]) ∧ w' = w := by
  obtain ⟨j, hj, _⟩ := Option.map_eq_some_iff.1 hx_sizeBuilder
  go_enter Try.func57, Try.ntmps57
  go_wp2
  rw [Lib.run_neq_ptr_same w _ Try.underlying52 hj]
  go_wp2
  go_end0
  exact ⟨rfl, rfl⟩
set_option maxHeartbeats 1000000 in
set_option maxRecDepth 100000 in
/-- copyCheck at a fresh builder: it stores its own address. -/
theorem hx_copyCheck_fresh (b : Nat) (w : World) (h0 : w.cell? ⟨b, 0, none⟩ = some (.pointer none)) (hsh : w.shape? b = some (55, 2)) (hfz : w.frozen? ⟨b, 0, none⟩ = false) :
    Calls Try.prog 57 #[.pointer (some ⟨b, 0, none⟩)] w fun e w' => e = .returned (.tuple #[]) ∧ w' = w.setCell ⟨b, 0, none⟩ (.pointer (some ⟨b, 0, none⟩)) := by
  obtain ⟨j, hj, hjs⟩ := Option.map_eq_some_iff.1 hx_sizeBuilder
  go_enter Try.func57, Try.ntmps57
  go_wp2
  rw [Lib.run_to_unsafe w ⟨b, 0, none⟩ Try.underlying52 Try.underlying66 hj (by rw [hjs]; decide) hsh (Nat.zero_lt_succ 1)]
  simp only [Result.andThen]
  rw [Oper.upon_value]
  go_wp2
  rw [run_callFunc_extern Try.func62 (by kernel_rfl) (by kernel_rfl) (by kernel_rfl) (e := Extern.AbiNoEscape.same) (by kernel_rfl)]
  rw [Lib.run_noEscape]
  simp only [Result.andThen]
  rw [Oper.upon_value]
  go_wp2
  rw [Lib.run_from_unsafe w ⟨b, 0, none⟩ Try.underlying66 Try.underlying52 hj hsh hx_liesBuilder]
  simp only [Result.andThen]
  rw [Oper.upon_value]
  go_wp2
  go_end0
  exact ⟨rfl, rfl⟩
theorem hx_copyCheck (B b : Nat) (bs : List Value) (w : World) (h : Lib.IsBuilder 55 5 B b bs w) :
    Calls Try.prog 57 #[.pointer (some ⟨b, 0, none⟩)] w fun e w' => e = .returned (.tuple #[]) ∧ (Lib.BuilderAt 55 5 B b (.pointer (some ⟨b, 0, none⟩)) bs w' ∧ Below B w w') := by
  rcases h with h | h
  · refine (hx_copyCheck_fresh b w h.cell0 h.shape h.frozen0).mono ?_
    rintro e w' ⟨rfl, rfl⟩
    exact ⟨rfl, h.used _, (Below.refl B w).setCell (p := ⟨b, 0, none⟩) h.1 _⟩
  · refine (hx_copyCheck_used b w h.cell0).mono ?_
    rintro e w' ⟨rfl, rfl⟩
    exact ⟨rfl, h, Below.refl B _⟩
set_option maxHeartbeats 2000000 in
set_option maxRecDepth 100000 in
theorem hx_WriteByte (B b : Nat) (bs : List Value) (c : Int) (w : World) (h : Lib.IsBuilder 55 5 B b bs w) (hlen : bs.length + 1 ≤ 140737488355328) (hBw : B ≤ w.heap.size) :
    Calls Try.prog 53 #[.pointer (some ⟨b, 0, none⟩), .int .u8 c] w fun e w' => e = .returned .nilIface ∧ (Lib.BuilderAt 55 5 B b (.pointer (some ⟨b, 0, none⟩)) (bs ++ [.int .u8 c]) w' ∧ Below B w w') := by
  obtain ⟨i0, hi, hz0, hz1, hz2⟩ := info_parts hx_infoByte
  go_enter Try.func53, Try.ntmps53
  go_wp2_with (go_at_call 57; refine (hx_copyCheck B b bs _ h).mono ?_)
  rintro e w1 ⟨rfl, h1, hb1⟩
  obtain ⟨hB, v, hbk, hown, hne⟩ := h1
  have c0 : w1.cell? ⟨b, 0, none⟩ = some (.pointer (some ⟨b, 0, none⟩)) := by rw [Lib.cell_of_heap hbk]; rfl
  have c1 : w1.cell? ⟨b, 1, none⟩ = some v := by rw [Lib.cell_of_heap hbk]; rfl
  go_wp2_with (at_builtin; refine wpList_append_own _ rfl _ _ 53 rfl B 5 i0 (.int .u8 0) 1 1 Try.underlying53 hi hz0 hz1 hz2 rfl (by decide) _ _ _ rfl (hown.alloc _) ⟨w1.heap.size, 0, none⟩ 1 1 [.int .u8 c] rfl rfl ?c1 ?c2 ?c3 ?c4 ?c5 ?_)
  case c1 =>
    intro j u hj
    match j, hj with
    | 0, hj => simp at hj; subst hj; simp [Addr.add]
  case c2 => intro u hu; simp at hu; subst hu; rfl
  case c3 => unfold maxLen; omega
  case c4 => omega
  case c5 => have := hb1.size; simp; omega
  intro v' w2 hown' hgrow _
  have hlt : b < w1.heap.size := by
    rcases Nat.lt_or_ge b w1.heap.size with h' | h'
    · exact h'
    · simp [Array.getElem?_eq_none h'] at hbk
  have hb2 : w2.heap[b]? = some (.cells #[.pointer (some ⟨b, 0, none⟩), v] 55 (0, 0)) := by
    rw [hgrow.block b (by simp; omega) (fun e => hne e.symm), Lib.alloc_old w1 _ b hlt]
    exact hbk
  have d0 : w2.cell? ⟨b, 0, none⟩ = some (.pointer (some ⟨b, 0, none⟩)) := by rw [Lib.cell_of_heap hb2]; rfl
  have d1 : w2.cell? ⟨b, 1, none⟩ = some v := by rw [Lib.cell_of_heap hb2]; rfl
  have f1 : w2.frozen? ⟨b, 1, none⟩ = false := Lib.frozen_of_heap hb2 1
  obtain ⟨g, cap, rfl⟩ : ∃ g cap, v' = .slice (some ⟨g, 0, none⟩) (bs.length + 1) cap := by
    rcases hown'.2 with ⟨_, h0⟩ | ⟨g, cap, cur, hv, _⟩
    · omega
    · exact ⟨g, cap, hv⟩
  go_wp2
  go_ret
  refine ⟨rfl, ?_, ?_⟩
  · exact Lib.BuilderAt.put (T := 55) (e := 5) hB hb2 (bs' := bs ++ [.int .u8 c]) (by simpa using hown') (by decide)
  · exact ((hb1.alloc (by have := hb1.size; omega) _).grown hgrow (by have := hb1.size; simp; omega) (fun k hk => (hown.lt k hk).1)).setCell (p := ⟨b, 1, none⟩) hB _
/-- The digit of a number below 16. -/
def hexDigit (n : Nat) : UInt8 := if n < 10 then (48 + n).toUInt8 else (87 + n).toUInt8
theorem hexDigit_int (n : Nat) (h : n < 16) : ((hexDigit n).toNat : Int) = if n < 10 then 48 + (n : Int) else 87 + (n : Int) := by
  unfold hexDigit
  split
  · rw [Nat.toUInt8, UInt8.toNat_ofNat']
    omega
  · rw [Nat.toUInt8, UInt8.toNat_ofNat']
    omega
/-- The first i digits of a word. -/
def hexN (w : Nat) (i : Nat) : List UInt8 := (List.range i).map fun j => hexDigit (w / 2 ^ (60 - 4 * j) % 16)
theorem hexN_succ (w i : Nat) : hexN w (i + 1) = hexN w i ++ [hexDigit (w / 2 ^ (60 - 4 * i) % 16)] := by
  unfold hexN
  rw [List.range_succ, List.map_append]
  rfl
theorem hexN_length (w i : Nat) : (hexN w i).length = i := by unfold hexN; simp
def field_Hex.f (a0 : Int) : Option (ByteArray) := if 0 ≤ a0 ∧ a0 < 18446744073709551616 then some ⟨(hexN a0.toNat 16).toArray⟩ else none
theorem hx_at (n : Nat) (hn : n < 16) (h : n < (⟨#[48, 49, 50, 51, 52, 53, 54, 55, 56, 57, 97, 98, 99, 100, 101, 102]⟩ : ByteArray).size) : ((⟨#[48, 49, 50, 51, 52, 53, 54, 55, 56, 57, 97, 98, 99, 100, 101, 102]⟩ : ByteArray)[n]'h) = hexDigit n := by
  have hc : n = 0 ∨ n = 1 ∨ n = 2 ∨ n = 3 ∨ n = 4 ∨ n = 5 ∨ n = 6 ∨ n = 7 ∨ n = 8 ∨ n = 9 ∨ n = 10 ∨ n = 11 ∨ n = 12 ∨ n = 13 ∨ n = 14 ∨ n = 15 := by omega
  rcases hc with rfl | rfl | rfl | rfl | rfl | rfl | rfl | rfl | rfl | rfl | rfl | rfl | rfl | rfl | rfl | rfl <;> rfl
set_option maxHeartbeats 8000000 in
set_option maxRecDepth 100000 in
theorem field_Hex.calls (a0 : Int) (r : ByteArray) (w : World) (h : field_Hex.f a0 = some r) :
    Calls Try.prog 45 #[.int .u64 a0] w fun e w' => e = .returned (.string r) ∧ Below w.heap.size w w' := by
  unfold field_Hex.f at h
  split at h
  case isFalse => cases h
  rename_i hb
  obtain ⟨n, rfl⟩ : ∃ n : Nat, a0 = n := ⟨a0.toNat, by omega⟩
  have hn : n < 2 ^ 64 := by omega
  simp only [Int.toNat_natCast] at h
  obtain rfl := Option.some.inj h
  clear h hb
  have hnH := Aside0.mk hn
  clear hn
  go_enter Try.func45, Try.ntmps45
  go_wp2
  go_loopw [5] (fun i wr => ∃ k : Nat, k ≤ 16 ∧ i = .int .i64 k ∧ Lib.IsBuilder 55 5 w.heap.size w.heap.size (Lib.byteCells (hexN n k)) wr ∧ Below w.heap.size w wr) (fun i _ => 16 - (intOf i).toNat)
  case atStart => exact ⟨0, by omega, rfl, Lib.fresh_isBuilder 55 5 w, (Below.refl _ w).alloc (Nat.le_refl _) _⟩
  case round =>
    obtain ⟨k, hk, rfl, hI, hbw⟩ := hrel
    by_cases hlt : k < 16
    · have g0 := FieldG.get_yes (P := 60 - 4 * k) (S := 4) n hnH.out (by omega) (by omega)
      have e1 : ((60 - 4 * k : Nat) : Int) = 60 - 4 * (k : Int) := by omega
      rw [e1] at g0
      have hd : BitsN.get n (60 - 4 * k) 4 < 16 := BitsN.get_lt n (60 - 4 * k) 4
      obtain ⟨d, hdd⟩ : ∃ d, BitsN.get n (60 - 4 * k) 4 = d := ⟨_, rfl⟩
      rw [hdd] at g0 hd
      have g1 := Aside0.mk g0
      have hsz : w.heap.size < wr.heap.size := by rcases hI with h | h <;> exact h.lt
      have hH := Aside0.mk hdd
      clear g0 e1 hdd
      go_wp2_with (first
        | (go_at_call 36; refine (field_Get.calls _ _ _ _ _ g1.out).mono ?_; rintro e w' ⟨rfl, nd, rfl⟩))
      refine (hx_WriteByte w.heap.size w.heap.size _ _ (wr.drewN nd) hI (by rw [Lib.byteCells_length, hexN_length]; omega) (Nat.le_of_lt hsz)).mono ?_
      rintro e w1 ⟨rfl, h1, b1⟩
      rw [hx_at d hd] at h1
      go_wp2
      go_roundw
      case rel =>
        refine ⟨k + 1, by omega, by go_num, ?_, (pw_below_drewN hbw nd).trans b1⟩
        rw [hexN_succ, show n / 2 ^ (60 - 4 * k) % 16 = d from hH.out, Lib.byteCells_append]
        exact Or.inr h1
      case measure => simp [intOf]; omega
    · have : k = 16 := by omega
      subst this
      have hsz : w.heap.size < wr.heap.size := by rcases hI with h | h <;> exact h.lt
      go_wp2_with (first
        | (go_at_call 54; refine (Try.Builder_String_any w.heap.size w.heap.size _ _ hI (Nat.le_of_lt hsz)).mono ?_; rintro e w' ⟨rfl, b1⟩))
      go_ret
      exact ⟨rfl, hbw.trans b1⟩

/-! ### lookasidelaw01_lives: function 40 -/
def lookasidelaw01_lives.f  : Option (Bool) := (field_Put.f 0 4 4 10).bind fun t175 => (if t175 = 160 then ((field_Hex.f 255).bind fun t176 => (if t176.toList = ([48, 48, 48, 48, 48, 48, 48, 48, 48, 48, 48, 48, 48, 48, 102, 102] : List UInt8) then ((field_May.f 0 64).bind fun t177 => (some t177)) else (some false))) else (some false))
set_option maxHeartbeats 8000000 in
set_option maxRecDepth 100000 in
theorem lookasidelaw01_lives.calls  (r : Bool) (w : World) (h : lookasidelaw01_lives.f  = some r) :
    Calls Try.prog 40 #[] w fun e w' => e = .returned (.bool r) ∧ Below w.heap.size w w' := by
  have HB := Aside0.mk (Below.refl w.heap.size w)
  have H : ((field_Put.f 0 4 4 10).bind fun t175 => (if t175 = 160 then ((field_Hex.f 255).bind fun t176 => (if t176.toList = ([48, 48, 48, 48, 48, 48, 48, 48, 48, 48, 48, 48, 48, 48, 102, 102] : List UInt8) then ((field_May.f 0 64).bind fun t177 => (some t177)) else (some false))) else (some false))) = some r := h
  clear h
  replace H := Option.bind_eq_some_iff.mp H
  obtain ⟨t175, A10, H⟩ := H
  replace H : (if t175 = 160 then ((field_Hex.f 255).bind fun t176 => (if t176.toList = ([48, 48, 48, 48, 48, 48, 48, 48, 48, 48, 48, 48, 48, 48, 102, 102] : List UInt8) then ((field_May.f 0 64).bind fun t177 => (some t177)) else (some false))) else (some false)) = some r := H
  have A1 := Aside0.mk A10
  clear A10
  by_cases c2 : t175 = 160
  · rw [if_pos c2] at H
    have c2b0 : (t175 == 160) = true := beq_iff_eq.mpr c2
    have c2b1 : (t175 != 160) = false := bne_eq_false_iff_eq.mpr c2
    clear c2
    replace H := Option.bind_eq_some_iff.mp H
    obtain ⟨t176, A30, H⟩ := H
    replace H : (if t176.toList = ([48, 48, 48, 48, 48, 48, 48, 48, 48, 48, 48, 48, 48, 48, 102, 102] : List UInt8) then ((field_May.f 0 64).bind fun t177 => (some t177)) else (some false)) = some r := H
    have A3 := Aside0.mk A30
    clear A30
    by_cases c4 : t176.toList = ([48, 48, 48, 48, 48, 48, 48, 48, 48, 48, 48, 48, 48, 48, 102, 102] : List UInt8)
    · rw [if_pos c4] at H
      have c4b0 : (t176.toList == ([48, 48, 48, 48, 48, 48, 48, 48, 48, 48, 48, 48, 48, 48, 102, 102] : List UInt8)) = true := beq_iff_eq.mpr c4
      have c4b1 : (t176.toList != ([48, 48, 48, 48, 48, 48, 48, 48, 48, 48, 48, 48, 48, 48, 102, 102] : List UInt8)) = false := bne_eq_false_iff_eq.mpr c4
      clear c4
      replace H := Option.bind_eq_some_iff.mp H
      obtain ⟨t177, A50, H⟩ := H
      replace H : (some t177) = some r := H
      have A5 := Aside0.mk A50
      clear A50
      obtain rfl := Option.some.inj H
      go_enter Try.func40, Try.ntmps40
      go_wp2_with (first | ((with_reducible refine gate_callee (f := 38) rfl ?_); refine goesL_ (some 1) rfl rfl Try.func38 (by kernel_rfl) rfl #[.int .u64 0, .int .i64 4, .int .i64 4, .int .u64 10] rfl (by (try simp only [List.map_toArray, List.map_cons, List.map_nil]); first | done | rfl | (simp only [List.length_drop, List.length_take]; rfl)) ?_; (with_reducible refine (field_Put.calls 0 4 4 10 t175 _ A1.out).mono ?_); rintro e w' ⟨rfl, ⟨nd, rfl⟩⟩; refine ⟨_, rfl, ?_⟩) | (go_at_call 45; (with_reducible refine (field_Hex.calls 255 t176 _ A3.out).mono ?_); rintro e w6 ⟨rfl, hb⟩; have n0_ := Aside0.mk (below_step (by repeat (first | (with_reducible first | exact HB.out | apply below_alloc | apply pw_below_drewN | apply below_drew1) | exact HB.out)) hb); clear HB; have HB := n0_; clear n0_; (try clear hb); (try clear hb2); (try clear hk); (try clear hi)) | (go_at_call 34; (with_reducible refine (field_May.calls 0 64 t177 _ A5.out).mono ?_); rintro e w' ⟨rfl, ⟨nd, rfl⟩⟩))
      go_ret
      exact ⟨by first | rfl | (simp [errW_none, errW_some] <;> rfl) | (simp [*, errW_none, errW_some] <;> rfl), by repeat (first | (with_reducible first | exact HB.out | apply below_alloc | apply pw_below_drewN | apply below_drew1) | exact HB.out)⟩
    · rw [if_neg c4] at H
      have c4b0 : (t176.toList == ([48, 48, 48, 48, 48, 48, 48, 48, 48, 48, 48, 48, 48, 48, 102, 102] : List UInt8)) = false := beq_eq_false_iff_ne.mpr c4
      have c4b1 : (t176.toList != ([48, 48, 48, 48, 48, 48, 48, 48, 48, 48, 48, 48, 48, 48, 102, 102] : List UInt8)) = true := bne_iff_ne.mpr c4
      obtain rfl := Option.some.inj H
      go_enter Try.func40, Try.ntmps40
      go_wp2_with (first | ((with_reducible refine gate_callee (f := 38) rfl ?_); refine goesL_ (some 1) rfl rfl Try.func38 (by kernel_rfl) rfl #[.int .u64 0, .int .i64 4, .int .i64 4, .int .u64 10] rfl (by (try simp only [List.map_toArray, List.map_cons, List.map_nil]); first | done | rfl | (simp only [List.length_drop, List.length_take]; rfl)) ?_; (with_reducible refine (field_Put.calls 0 4 4 10 t175 _ A1.out).mono ?_); rintro e w' ⟨rfl, ⟨nd, rfl⟩⟩; refine ⟨_, rfl, ?_⟩) | (go_at_call 45; (with_reducible refine (field_Hex.calls 255 t176 _ A3.out).mono ?_); rintro e w7 ⟨rfl, hb⟩; have n0_ := Aside0.mk (below_step (by repeat (first | (with_reducible first | exact HB.out | apply below_alloc | apply pw_below_drewN | apply below_drew1) | exact HB.out)) hb); clear HB; have HB := n0_; clear n0_; (try clear hb); (try clear hb2); (try clear hk); (try clear hi)))
      go_ret
      exact ⟨by first | rfl | (simp [errW_none, errW_some] <;> rfl) | (simp [*, errW_none, errW_some] <;> rfl), by repeat (first | (with_reducible first | exact HB.out | apply below_alloc | apply pw_below_drewN | apply below_drew1) | exact HB.out)⟩
  · rw [if_neg c2] at H
    have c2b0 : (t175 == 160) = false := beq_eq_false_iff_ne.mpr c2
    have c2b1 : (t175 != 160) = true := bne_iff_ne.mpr c2
    obtain rfl := Option.some.inj H
    go_enter Try.func40, Try.ntmps40
    go_wp2_with (first | ((with_reducible refine gate_callee (f := 38) rfl ?_); refine goesL_ (some 1) rfl rfl Try.func38 (by kernel_rfl) rfl #[.int .u64 0, .int .i64 4, .int .i64 4, .int .u64 10] rfl (by (try simp only [List.map_toArray, List.map_cons, List.map_nil]); first | done | rfl | (simp only [List.length_drop, List.length_take]; rfl)) ?_; (with_reducible refine (field_Put.calls 0 4 4 10 t175 _ A1.out).mono ?_); rintro e w' ⟨rfl, ⟨nd, rfl⟩⟩; refine ⟨_, rfl, ?_⟩))
    go_ret
    exact ⟨by first | rfl | (simp [errW_none, errW_some] <;> rfl) | (simp [*, errW_none, errW_some] <;> rfl), by repeat (first | (with_reducible first | exact HB.out | apply below_alloc | apply pw_below_drewN | apply below_drew1) | exact HB.out)⟩

/-! ### lookasidelaw01_FieldGets: function 8 -/
def lookasidelaw01_FieldGets.f (k : Nat) (a0 : Int) (a1 : Int) (a2 : Int) (a3 : Int) : Option (Bool) := (lookasideref01_Put.f k 0 a1 a2 18446744073709551615).bind fun t178 => ((field_May.f a1 a2).bind fun t179 => ((lookasideref01_May.f a1 a2).bind fun t180 => (if (t179 == t180) = true then ((field_Get.f a0 a1 a2).bind fun t181 => ((lookasideref01_Get.f k a0 a1 a2).bind fun t182 => (if t181 = t182 then ((field_Put.f a0 a1 a2 a3).bind fun t183 => ((lookasideref01_Put.f k a0 a1 a2 a3).bind fun t184 => (if t183 = t184 then ((field_Mask.f a1 a2).bind fun t185 => (if t185 = t178 then ((lookasidelaw01_lives.f).bind fun t186 => (some t186)) else (some false))) else (some false)))) else (some false)))) else (some false))))
theorem lookasidelaw01_FieldGets.mono : ∀ a0 a1 a2 a3 k, LeO (lookasidelaw01_FieldGets.f k a0 a1 a2 a3) (lookasidelaw01_FieldGets.f (k + 1) a0 a1 a2 a3) := by
  intro a0 a1 a2 a3 k
  unfold lookasidelaw01_FieldGets.f
  repeat' first
      | (with_reducible exact lookasideref01_Get.mono _ _ _ _)
      | (with_reducible exact lookasideref01_Put.mono _ _ _ _ _)
      | (with_reducible exact LeO.refl _)
      | (with_reducible exact LeO.none _)
      | (with_reducible refine LeO.ite ?_ ?_)
      | (with_reducible refine LeO.bind ?_ (fun _ => ?_))
      | exact lookasideref01_Get.mono _ _ _ _
      | exact lookasideref01_Put.mono _ _ _ _ _
      | exact LeO.none _
      | refine LeO.ite ?_ ?_
      | refine LeO.bind ?_ (fun _ => ?_)
set_option maxHeartbeats 8000000 in
set_option maxRecDepth 100000 in
theorem lookasidelaw01_FieldGets.calls (k : Nat) (a0 : Int) (a1 : Int) (a2 : Int) (a3 : Int) (r : Bool) (w : World) (h : lookasidelaw01_FieldGets.f k a0 a1 a2 a3 = some r) :
    Calls Try.prog 8 #[.int .u64 a0, .int .i64 a1, .int .i64 a2, .int .u64 a3] w fun e w' => e = .returned (.bool r) ∧ Below w.heap.size w w' := by
  have HB := Aside0.mk (Below.refl w.heap.size w)
  have H : ((lookasideref01_Put.f k 0 a1 a2 18446744073709551615).bind fun t178 => ((field_May.f a1 a2).bind fun t179 => ((lookasideref01_May.f a1 a2).bind fun t180 => (if (t179 == t180) = true then ((field_Get.f a0 a1 a2).bind fun t181 => ((lookasideref01_Get.f k a0 a1 a2).bind fun t182 => (if t181 = t182 then ((field_Put.f a0 a1 a2 a3).bind fun t183 => ((lookasideref01_Put.f k a0 a1 a2 a3).bind fun t184 => (if t183 = t184 then ((field_Mask.f a1 a2).bind fun t185 => (if t185 = t178 then ((lookasidelaw01_lives.f).bind fun t186 => (some t186)) else (some false))) else (some false)))) else (some false)))) else (some false))))) = some r := h
  clear h
  replace H := Option.bind_eq_some_iff.mp H
  obtain ⟨t178, A50, H⟩ := H
  replace H : ((field_May.f a1 a2).bind fun t179 => ((lookasideref01_May.f a1 a2).bind fun t180 => (if (t179 == t180) = true then ((field_Get.f a0 a1 a2).bind fun t181 => ((lookasideref01_Get.f k a0 a1 a2).bind fun t182 => (if t181 = t182 then ((field_Put.f a0 a1 a2 a3).bind fun t183 => ((lookasideref01_Put.f k a0 a1 a2 a3).bind fun t184 => (if t183 = t184 then ((field_Mask.f a1 a2).bind fun t185 => (if t185 = t178 then ((lookasidelaw01_lives.f).bind fun t186 => (some t186)) else (some false))) else (some false)))) else (some false)))) else (some false)))) = some r := H
  have A5 := Aside0.mk A50
  clear A50
  replace H := Option.bind_eq_some_iff.mp H
  obtain ⟨t179, A60, H⟩ := H
  replace H : ((lookasideref01_May.f a1 a2).bind fun t180 => (if (t179 == t180) = true then ((field_Get.f a0 a1 a2).bind fun t181 => ((lookasideref01_Get.f k a0 a1 a2).bind fun t182 => (if t181 = t182 then ((field_Put.f a0 a1 a2 a3).bind fun t183 => ((lookasideref01_Put.f k a0 a1 a2 a3).bind fun t184 => (if t183 = t184 then ((field_Mask.f a1 a2).bind fun t185 => (if t185 = t178 then ((lookasidelaw01_lives.f).bind fun t186 => (some t186)) else (some false))) else (some false)))) else (some false)))) else (some false))) = some r := H
  have A6 := Aside0.mk A60
  clear A60
  replace H := Option.bind_eq_some_iff.mp H
  obtain ⟨t180, A70, H⟩ := H
  replace H : (if (t179 == t180) = true then ((field_Get.f a0 a1 a2).bind fun t181 => ((lookasideref01_Get.f k a0 a1 a2).bind fun t182 => (if t181 = t182 then ((field_Put.f a0 a1 a2 a3).bind fun t183 => ((lookasideref01_Put.f k a0 a1 a2 a3).bind fun t184 => (if t183 = t184 then ((field_Mask.f a1 a2).bind fun t185 => (if t185 = t178 then ((lookasidelaw01_lives.f).bind fun t186 => (some t186)) else (some false))) else (some false)))) else (some false)))) else (some false)) = some r := H
  have A7 := Aside0.mk A70
  clear A70
  by_cases c8 : (t179 == t180) = true
  · rw [if_pos c8] at H
    have c8b0 : (t179 == t180) = true := c8
    (try (have c8b1 : decide (t179 = t180) = true := by simpa using c8))
    (try (have c8b2 : (t179 == t180) = true := by simpa using c8))
    clear c8
    replace H := Option.bind_eq_some_iff.mp H
    obtain ⟨t181, A90, H⟩ := H
    replace H : ((lookasideref01_Get.f k a0 a1 a2).bind fun t182 => (if t181 = t182 then ((field_Put.f a0 a1 a2 a3).bind fun t183 => ((lookasideref01_Put.f k a0 a1 a2 a3).bind fun t184 => (if t183 = t184 then ((field_Mask.f a1 a2).bind fun t185 => (if t185 = t178 then ((lookasidelaw01_lives.f).bind fun t186 => (some t186)) else (some false))) else (some false)))) else (some false))) = some r := H
    have A9 := Aside0.mk A90
    clear A90
    replace H := Option.bind_eq_some_iff.mp H
    obtain ⟨t182, A100, H⟩ := H
    replace H : (if t181 = t182 then ((field_Put.f a0 a1 a2 a3).bind fun t183 => ((lookasideref01_Put.f k a0 a1 a2 a3).bind fun t184 => (if t183 = t184 then ((field_Mask.f a1 a2).bind fun t185 => (if t185 = t178 then ((lookasidelaw01_lives.f).bind fun t186 => (some t186)) else (some false))) else (some false)))) else (some false)) = some r := H
    have A10 := Aside0.mk A100
    clear A100
    by_cases c11 : t181 = t182
    · rw [if_pos c11] at H
      have c11b0 : (t181 == t182) = true := beq_iff_eq.mpr c11
      have c11b1 : (t181 != t182) = false := bne_eq_false_iff_eq.mpr c11
      clear c11
      replace H := Option.bind_eq_some_iff.mp H
      obtain ⟨t183, A120, H⟩ := H
      replace H : ((lookasideref01_Put.f k a0 a1 a2 a3).bind fun t184 => (if t183 = t184 then ((field_Mask.f a1 a2).bind fun t185 => (if t185 = t178 then ((lookasidelaw01_lives.f).bind fun t186 => (some t186)) else (some false))) else (some false))) = some r := H
      have A12 := Aside0.mk A120
      clear A120
      replace H := Option.bind_eq_some_iff.mp H
      obtain ⟨t184, A130, H⟩ := H
      replace H : (if t183 = t184 then ((field_Mask.f a1 a2).bind fun t185 => (if t185 = t178 then ((lookasidelaw01_lives.f).bind fun t186 => (some t186)) else (some false))) else (some false)) = some r := H
      have A13 := Aside0.mk A130
      clear A130
      by_cases c14 : t183 = t184
      · rw [if_pos c14] at H
        have c14b0 : (t183 == t184) = true := beq_iff_eq.mpr c14
        have c14b1 : (t183 != t184) = false := bne_eq_false_iff_eq.mpr c14
        clear c14
        replace H := Option.bind_eq_some_iff.mp H
        obtain ⟨t185, A150, H⟩ := H
        replace H : (if t185 = t178 then ((lookasidelaw01_lives.f).bind fun t186 => (some t186)) else (some false)) = some r := H
        have A15 := Aside0.mk A150
        clear A150
        by_cases c16 : t185 = t178
        · rw [if_pos c16] at H
          have c16b0 : (t185 == t178) = true := beq_iff_eq.mpr c16
          have c16b1 : (t185 != t178) = false := bne_eq_false_iff_eq.mpr c16
          clear c16
          replace H := Option.bind_eq_some_iff.mp H
          obtain ⟨t186, A170, H⟩ := H
          replace H : (some t186) = some r := H
          have A17 := Aside0.mk A170
          clear A170
          obtain rfl := Option.some.inj H
          go_enter Try.func8, Try.ntmps8
          go_wp2_with (first | ((with_reducible refine gate_callee (f := 33) rfl ?_); refine goesL_ (some 12) rfl rfl Try.func33 (by kernel_rfl) rfl #[.int .u64 0, .int .i64 a1, .int .i64 a2, .int .u64 18446744073709551615] rfl (by (try simp only [List.map_toArray, List.map_cons, List.map_nil]); first | done | rfl | (simp only [List.length_drop, List.length_take]; rfl)) ?_; (with_reducible refine (lookasideref01_Put.calls k 0 a1 a2 18446744073709551615 t178 _ A5.out).mono ?_); rintro e w' ⟨rfl, ⟨nd, rfl⟩⟩; refine ⟨_, rfl, ?_⟩) | ((with_reducible refine gate_callee (f := 34) rfl ?_); refine goesL_ (some 15) rfl rfl Try.func34 (by kernel_rfl) rfl #[.int .i64 a1, .int .i64 a2] rfl (by (try simp only [List.map_toArray, List.map_cons, List.map_nil]); first | done | rfl | (simp only [List.length_drop, List.length_take]; rfl)) ?_; (with_reducible refine (field_May.calls a1 a2 t179 _ A6.out).mono ?_); rintro e w' ⟨rfl, ⟨nd, rfl⟩⟩; refine ⟨_, rfl, ?_⟩) | ((with_reducible refine gate_callee (f := 35) rfl ?_); refine goesL_ (some 18) rfl rfl Try.func35 (by kernel_rfl) rfl #[.int .i64 a1, .int .i64 a2] rfl (by (try simp only [List.map_toArray, List.map_cons, List.map_nil]); first | done | rfl | (simp only [List.length_drop, List.length_take]; rfl)) ?_; (with_reducible refine (lookasideref01_May.calls a1 a2 t180 _ A7.out).mono ?_); rintro e w' ⟨rfl, ⟨nd, rfl⟩⟩; refine ⟨_, rfl, ?_⟩) | (go_at_call 36; (with_reducible refine (field_Get.calls a0 a1 a2 t181 _ A9.out).mono ?_); rintro e w' ⟨rfl, ⟨nd, rfl⟩⟩) | (go_at_call 37; (with_reducible refine (lookasideref01_Get.calls k a0 a1 a2 t182 _ A10.out).mono ?_); rintro e w' ⟨rfl, ⟨nd, rfl⟩⟩) | (go_at_call 38; (with_reducible refine (field_Put.calls a0 a1 a2 a3 t183 _ A12.out).mono ?_); rintro e w' ⟨rfl, ⟨nd, rfl⟩⟩) | (go_at_call 33; (with_reducible refine (lookasideref01_Put.calls k a0 a1 a2 a3 t184 _ A13.out).mono ?_); rintro e w' ⟨rfl, ⟨nd, rfl⟩⟩) | (go_at_call 39; (with_reducible refine (field_Mask.calls a1 a2 t185 _ A15.out).mono ?_); rintro e w' ⟨rfl, ⟨nd, rfl⟩⟩) | (go_at_call 40; (with_reducible refine (lookasidelaw01_lives.calls  t186 _ A17.out).mono ?_); rintro e w18 ⟨rfl, hb⟩; have n0_ := Aside0.mk (below_step (by repeat (first | (with_reducible first | exact HB.out | apply below_alloc | apply pw_below_drewN | apply below_drew1) | exact HB.out)) hb); clear HB; have HB := n0_; clear n0_; (try clear hb); (try clear hb2); (try clear hk); (try clear hi)))
          go_ret
          exact ⟨by first | rfl | (simp [errW_none, errW_some] <;> rfl) | (simp [*, errW_none, errW_some] <;> rfl), by repeat (first | (with_reducible first | exact HB.out | apply below_alloc | apply pw_below_drewN | apply below_drew1) | exact HB.out)⟩
        · rw [if_neg c16] at H
          have c16b0 : (t185 == t178) = false := beq_eq_false_iff_ne.mpr c16
          have c16b1 : (t185 != t178) = true := bne_iff_ne.mpr c16
          obtain rfl := Option.some.inj H
          go_enter Try.func8, Try.ntmps8
          go_wp2_with (first | ((with_reducible refine gate_callee (f := 33) rfl ?_); refine goesL_ (some 12) rfl rfl Try.func33 (by kernel_rfl) rfl #[.int .u64 0, .int .i64 a1, .int .i64 a2, .int .u64 18446744073709551615] rfl (by (try simp only [List.map_toArray, List.map_cons, List.map_nil]); first | done | rfl | (simp only [List.length_drop, List.length_take]; rfl)) ?_; (with_reducible refine (lookasideref01_Put.calls k 0 a1 a2 18446744073709551615 t178 _ A5.out).mono ?_); rintro e w' ⟨rfl, ⟨nd, rfl⟩⟩; refine ⟨_, rfl, ?_⟩) | ((with_reducible refine gate_callee (f := 34) rfl ?_); refine goesL_ (some 15) rfl rfl Try.func34 (by kernel_rfl) rfl #[.int .i64 a1, .int .i64 a2] rfl (by (try simp only [List.map_toArray, List.map_cons, List.map_nil]); first | done | rfl | (simp only [List.length_drop, List.length_take]; rfl)) ?_; (with_reducible refine (field_May.calls a1 a2 t179 _ A6.out).mono ?_); rintro e w' ⟨rfl, ⟨nd, rfl⟩⟩; refine ⟨_, rfl, ?_⟩) | ((with_reducible refine gate_callee (f := 35) rfl ?_); refine goesL_ (some 18) rfl rfl Try.func35 (by kernel_rfl) rfl #[.int .i64 a1, .int .i64 a2] rfl (by (try simp only [List.map_toArray, List.map_cons, List.map_nil]); first | done | rfl | (simp only [List.length_drop, List.length_take]; rfl)) ?_; (with_reducible refine (lookasideref01_May.calls a1 a2 t180 _ A7.out).mono ?_); rintro e w' ⟨rfl, ⟨nd, rfl⟩⟩; refine ⟨_, rfl, ?_⟩) | (go_at_call 36; (with_reducible refine (field_Get.calls a0 a1 a2 t181 _ A9.out).mono ?_); rintro e w' ⟨rfl, ⟨nd, rfl⟩⟩) | (go_at_call 37; (with_reducible refine (lookasideref01_Get.calls k a0 a1 a2 t182 _ A10.out).mono ?_); rintro e w' ⟨rfl, ⟨nd, rfl⟩⟩) | (go_at_call 38; (with_reducible refine (field_Put.calls a0 a1 a2 a3 t183 _ A12.out).mono ?_); rintro e w' ⟨rfl, ⟨nd, rfl⟩⟩) | (go_at_call 33; (with_reducible refine (lookasideref01_Put.calls k a0 a1 a2 a3 t184 _ A13.out).mono ?_); rintro e w' ⟨rfl, ⟨nd, rfl⟩⟩) | (go_at_call 39; (with_reducible refine (field_Mask.calls a1 a2 t185 _ A15.out).mono ?_); rintro e w' ⟨rfl, ⟨nd, rfl⟩⟩))
          go_ret
          exact ⟨by first | rfl | (simp [errW_none, errW_some] <;> rfl) | (simp [*, errW_none, errW_some] <;> rfl), by repeat (first | (with_reducible first | exact HB.out | apply below_alloc | apply pw_below_drewN | apply below_drew1) | exact HB.out)⟩
      · rw [if_neg c14] at H
        have c14b0 : (t183 == t184) = false := beq_eq_false_iff_ne.mpr c14
        have c14b1 : (t183 != t184) = true := bne_iff_ne.mpr c14
        obtain rfl := Option.some.inj H
        go_enter Try.func8, Try.ntmps8
        go_wp2_with (first | ((with_reducible refine gate_callee (f := 33) rfl ?_); refine goesL_ (some 12) rfl rfl Try.func33 (by kernel_rfl) rfl #[.int .u64 0, .int .i64 a1, .int .i64 a2, .int .u64 18446744073709551615] rfl (by (try simp only [List.map_toArray, List.map_cons, List.map_nil]); first | done | rfl | (simp only [List.length_drop, List.length_take]; rfl)) ?_; (with_reducible refine (lookasideref01_Put.calls k 0 a1 a2 18446744073709551615 t178 _ A5.out).mono ?_); rintro e w' ⟨rfl, ⟨nd, rfl⟩⟩; refine ⟨_, rfl, ?_⟩) | ((with_reducible refine gate_callee (f := 34) rfl ?_); refine goesL_ (some 15) rfl rfl Try.func34 (by kernel_rfl) rfl #[.int .i64 a1, .int .i64 a2] rfl (by (try simp only [List.map_toArray, List.map_cons, List.map_nil]); first | done | rfl | (simp only [List.length_drop, List.length_take]; rfl)) ?_; (with_reducible refine (field_May.calls a1 a2 t179 _ A6.out).mono ?_); rintro e w' ⟨rfl, ⟨nd, rfl⟩⟩; refine ⟨_, rfl, ?_⟩) | ((with_reducible refine gate_callee (f := 35) rfl ?_); refine goesL_ (some 18) rfl rfl Try.func35 (by kernel_rfl) rfl #[.int .i64 a1, .int .i64 a2] rfl (by (try simp only [List.map_toArray, List.map_cons, List.map_nil]); first | done | rfl | (simp only [List.length_drop, List.length_take]; rfl)) ?_; (with_reducible refine (lookasideref01_May.calls a1 a2 t180 _ A7.out).mono ?_); rintro e w' ⟨rfl, ⟨nd, rfl⟩⟩; refine ⟨_, rfl, ?_⟩) | (go_at_call 36; (with_reducible refine (field_Get.calls a0 a1 a2 t181 _ A9.out).mono ?_); rintro e w' ⟨rfl, ⟨nd, rfl⟩⟩) | (go_at_call 37; (with_reducible refine (lookasideref01_Get.calls k a0 a1 a2 t182 _ A10.out).mono ?_); rintro e w' ⟨rfl, ⟨nd, rfl⟩⟩) | (go_at_call 38; (with_reducible refine (field_Put.calls a0 a1 a2 a3 t183 _ A12.out).mono ?_); rintro e w' ⟨rfl, ⟨nd, rfl⟩⟩) | (go_at_call 33; (with_reducible refine (lookasideref01_Put.calls k a0 a1 a2 a3 t184 _ A13.out).mono ?_); rintro e w' ⟨rfl, ⟨nd, rfl⟩⟩))
        go_ret
        exact ⟨by first | rfl | (simp [errW_none, errW_some] <;> rfl) | (simp [*, errW_none, errW_some] <;> rfl), by repeat (first | (with_reducible first | exact HB.out | apply below_alloc | apply pw_below_drewN | apply below_drew1) | exact HB.out)⟩
    · rw [if_neg c11] at H
      have c11b0 : (t181 == t182) = false := beq_eq_false_iff_ne.mpr c11
      have c11b1 : (t181 != t182) = true := bne_iff_ne.mpr c11
      obtain rfl := Option.some.inj H
      go_enter Try.func8, Try.ntmps8
      go_wp2_with (first | ((with_reducible refine gate_callee (f := 33) rfl ?_); refine goesL_ (some 12) rfl rfl Try.func33 (by kernel_rfl) rfl #[.int .u64 0, .int .i64 a1, .int .i64 a2, .int .u64 18446744073709551615] rfl (by (try simp only [List.map_toArray, List.map_cons, List.map_nil]); first | done | rfl | (simp only [List.length_drop, List.length_take]; rfl)) ?_; (with_reducible refine (lookasideref01_Put.calls k 0 a1 a2 18446744073709551615 t178 _ A5.out).mono ?_); rintro e w' ⟨rfl, ⟨nd, rfl⟩⟩; refine ⟨_, rfl, ?_⟩) | ((with_reducible refine gate_callee (f := 34) rfl ?_); refine goesL_ (some 15) rfl rfl Try.func34 (by kernel_rfl) rfl #[.int .i64 a1, .int .i64 a2] rfl (by (try simp only [List.map_toArray, List.map_cons, List.map_nil]); first | done | rfl | (simp only [List.length_drop, List.length_take]; rfl)) ?_; (with_reducible refine (field_May.calls a1 a2 t179 _ A6.out).mono ?_); rintro e w' ⟨rfl, ⟨nd, rfl⟩⟩; refine ⟨_, rfl, ?_⟩) | ((with_reducible refine gate_callee (f := 35) rfl ?_); refine goesL_ (some 18) rfl rfl Try.func35 (by kernel_rfl) rfl #[.int .i64 a1, .int .i64 a2] rfl (by (try simp only [List.map_toArray, List.map_cons, List.map_nil]); first | done | rfl | (simp only [List.length_drop, List.length_take]; rfl)) ?_; (with_reducible refine (lookasideref01_May.calls a1 a2 t180 _ A7.out).mono ?_); rintro e w' ⟨rfl, ⟨nd, rfl⟩⟩; refine ⟨_, rfl, ?_⟩) | (go_at_call 36; (with_reducible refine (field_Get.calls a0 a1 a2 t181 _ A9.out).mono ?_); rintro e w' ⟨rfl, ⟨nd, rfl⟩⟩) | (go_at_call 37; (with_reducible refine (lookasideref01_Get.calls k a0 a1 a2 t182 _ A10.out).mono ?_); rintro e w' ⟨rfl, ⟨nd, rfl⟩⟩))
      go_ret
      exact ⟨by first | rfl | (simp [errW_none, errW_some] <;> rfl) | (simp [*, errW_none, errW_some] <;> rfl), by repeat (first | (with_reducible first | exact HB.out | apply below_alloc | apply pw_below_drewN | apply below_drew1) | exact HB.out)⟩
  · rw [if_neg c8] at H
    have c8b0 : (t179 == t180) = false := by simpa using c8
    (try (have c8b1 : decide (t179 = t180) = false := by simpa using c8))
    (try (have c8b2 : (t179 == t180) = false := by simpa using c8))
    (try (have c8b3 : ¬ (t179 = t180) := by simpa using c8))
    clear c8
    obtain rfl := Option.some.inj H
    go_enter Try.func8, Try.ntmps8
    go_wp2_with (first | ((with_reducible refine gate_callee (f := 33) rfl ?_); refine goesL_ (some 12) rfl rfl Try.func33 (by kernel_rfl) rfl #[.int .u64 0, .int .i64 a1, .int .i64 a2, .int .u64 18446744073709551615] rfl (by (try simp only [List.map_toArray, List.map_cons, List.map_nil]); first | done | rfl | (simp only [List.length_drop, List.length_take]; rfl)) ?_; (with_reducible refine (lookasideref01_Put.calls k 0 a1 a2 18446744073709551615 t178 _ A5.out).mono ?_); rintro e w' ⟨rfl, ⟨nd, rfl⟩⟩; refine ⟨_, rfl, ?_⟩) | ((with_reducible refine gate_callee (f := 34) rfl ?_); refine goesL_ (some 15) rfl rfl Try.func34 (by kernel_rfl) rfl #[.int .i64 a1, .int .i64 a2] rfl (by (try simp only [List.map_toArray, List.map_cons, List.map_nil]); first | done | rfl | (simp only [List.length_drop, List.length_take]; rfl)) ?_; (with_reducible refine (field_May.calls a1 a2 t179 _ A6.out).mono ?_); rintro e w' ⟨rfl, ⟨nd, rfl⟩⟩; refine ⟨_, rfl, ?_⟩) | ((with_reducible refine gate_callee (f := 35) rfl ?_); refine goesL_ (some 18) rfl rfl Try.func35 (by kernel_rfl) rfl #[.int .i64 a1, .int .i64 a2] rfl (by (try simp only [List.map_toArray, List.map_cons, List.map_nil]); first | done | rfl | (simp only [List.length_drop, List.length_take]; rfl)) ?_; (with_reducible refine (lookasideref01_May.calls a1 a2 t180 _ A7.out).mono ?_); rintro e w' ⟨rfl, ⟨nd, rfl⟩⟩; refine ⟨_, rfl, ?_⟩))
    go_ret
    exact ⟨by first | rfl | (simp [errW_none, errW_some] <;> rfl) | (simp [*, errW_none, errW_some] <;> rfl), by repeat (first | (with_reducible first | exact HB.out | apply below_alloc | apply pw_below_drewN | apply below_drew1) | exact HB.out)⟩

/-- THE ONE PURE STATEMENT of lookasidelaw01_FieldGets: yours. -/
def lookasidelaw01_FieldGets.Pure : Prop := ∀ (a0 : Int) (a1 : Int) (a2 : Int) (a3 : Int), (Lit.int .u64 a0).wf = true → (Lit.int .i64 a1).wf = true → (Lit.int .i64 a2).wf = true → (Lit.int .u64 a3).wf = true → ∃ k, lookasidelaw01_FieldGets.f k a0 a1 a2 a3 = some true
theorem lookasidelaw01_FieldGets.walk (P : lookasidelaw01_FieldGets.Pure) (a0 : Int) (a1 : Int) (a2 : Int) (a3 : Int) (w : World) (w0 : (Lit.int .u64 a0).wf = true) (w1 : (Lit.int .i64 a1).wf = true) (w2 : (Lit.int .i64 a2).wf = true) (w3 : (Lit.int .u64 a3).wf = true) :
    Calls Try.prog 8 #[.int .u64 a0, .int .i64 a1, .int .i64 a2, .int .u64 a3] w fun e w' => e = .returned (.bool true) ∧ Below w.heap.size w w' := by
  obtain ⟨k, h⟩ := P a0 a1 a2 a3 w0 w1 w2 w3
  refine (lookasidelaw01_FieldGets.calls k a0 a1 a2 a3 true w h).mono ?_
  rintro e w' ⟨rfl, hd⟩
  exact ⟨rfl, hd⟩

/-! ### lookasidelaw01_FieldApart: function 9 -/
mutual
def lookasidelaw01_FieldApart.j0 : Nat → Int → Int → Int → Int → Int → Option (Bool)
  | 0, _, _, _, _, _ => none
  | k + 1, x0, x1, x2, x3, x4 => if x1 < 0 then (lookasidelaw01_FieldApart.j1 k x0 (wrap64 (-(wrap64 (x1 + 1)))) x2 x3 x4) else (lookasidelaw01_FieldApart.j1 k x0 x1 x2 x3 x4)
def lookasidelaw01_FieldApart.j1 : Nat → Int → Int → Int → Int → Int → Option (Bool)
  | 0, _, _, _, _, _ => none
  | k + 1, x0, x1, x2, x3, x4 => if x2 < 0 then (lookasidelaw01_FieldApart.j2 k x0 x1 (wrap64 (-(wrap64 (x2 + 1)))) x3 x4) else (lookasidelaw01_FieldApart.j2 k x0 x1 x2 x3 x4)
def lookasidelaw01_FieldApart.j2 : Nat → Int → Int → Int → Int → Int → Option (Bool)
  | 0, _, _, _, _, _ => none
  | k + 1, x0, x1, x2, x3, x4 => (field_Put.f 0 (Int.tmod x0 32) (wrap64 (1 + (Int.tmod x1 16))) x3).bind fun t187 => ((field_Put.f t187 (wrap64 ((Int.tmod x0 32) + (wrap64 (1 + (Int.tmod x1 16))))) (wrap64 (1 + (Int.tmod x2 16))) x4).bind fun t188 => ((field_Put.f 0 (wrap64 ((Int.tmod x0 32) + (wrap64 (1 + (Int.tmod x1 16))))) (wrap64 (1 + (Int.tmod x2 16))) x4).bind fun t189 => ((field_Put.f t189 (Int.tmod x0 32) (wrap64 (1 + (Int.tmod x1 16))) x3).bind fun t190 => (if t188 = t190 then ((field_Get.f t188 (Int.tmod x0 32) (wrap64 (1 + (Int.tmod x1 16)))).bind fun t191 => ((lookasideref01_Get.f k x3 0 (wrap64 (1 + (Int.tmod x1 16)))).bind fun t192 => (if t191 = t192 then ((field_Get.f t188 (wrap64 ((Int.tmod x0 32) + (wrap64 (1 + (Int.tmod x1 16))))) (wrap64 (1 + (Int.tmod x2 16)))).bind fun t193 => ((lookasideref01_Get.f k x4 0 (wrap64 (1 + (Int.tmod x2 16)))).bind fun t194 => (if t193 = t194 then ((lookasidelaw01_lives.f).bind fun t195 => (some t195)) else (some false)))) else (some false)))) else (some false)))))
end
def lookasidelaw01_FieldApart.f (k : Nat) (a0 : Int) (a1 : Int) (a2 : Int) (a3 : Int) (a4 : Int) : Option (Bool) := if a0 < 0 then (lookasidelaw01_FieldApart.j0 k (wrap64 (-(wrap64 (a0 + 1)))) a1 a2 a3 a4) else (lookasidelaw01_FieldApart.j0 k a0 a1 a2 a3 a4)
theorem lookasidelaw01_FieldApart.mono_l : ∀ k, (∀ y0 y1 y2 y3 y4, LeO (lookasidelaw01_FieldApart.j0 k y0 y1 y2 y3 y4) (lookasidelaw01_FieldApart.j0 (k + 1) y0 y1 y2 y3 y4)) ∧ (∀ y0 y1 y2 y3 y4, LeO (lookasidelaw01_FieldApart.j1 k y0 y1 y2 y3 y4) (lookasidelaw01_FieldApart.j1 (k + 1) y0 y1 y2 y3 y4)) ∧ (∀ y0 y1 y2 y3 y4, LeO (lookasidelaw01_FieldApart.j2 k y0 y1 y2 y3 y4) (lookasidelaw01_FieldApart.j2 (k + 1) y0 y1 y2 y3 y4))
  | 0 => ⟨fun _ _ _ _ _ r h => by simp [lookasidelaw01_FieldApart.j0] at h, fun _ _ _ _ _ r h => by simp [lookasidelaw01_FieldApart.j1] at h, fun _ _ _ _ _ r h => by simp [lookasidelaw01_FieldApart.j2] at h⟩
  | k + 1 => by
    obtain ⟨ih0, ih1, ih2⟩ := lookasidelaw01_FieldApart.mono_l k
    refine ⟨?_, ?_, ?_⟩
    · intro y0 y1 y2 y3 y4
      unfold lookasidelaw01_FieldApart.j0
      repeat' first
      | (with_reducible exact ih0 _ _ _ _ _)
      | (with_reducible exact ih1 _ _ _ _ _)
      | (with_reducible exact ih2 _ _ _ _ _)
      | (with_reducible exact lookasideref01_Get.mono _ _ _ _)
      | (with_reducible exact LeO.refl _)
      | (with_reducible exact LeO.none _)
      | (with_reducible refine LeO.ite ?_ ?_)
      | (with_reducible refine LeO.bind ?_ (fun _ => ?_))
      | exact ih0 _ _ _ _ _
      | exact ih1 _ _ _ _ _
      | exact ih2 _ _ _ _ _
      | exact lookasideref01_Get.mono _ _ _ _
      | exact LeO.none _
      | refine LeO.ite ?_ ?_
      | refine LeO.bind ?_ (fun _ => ?_)
    · intro y0 y1 y2 y3 y4
      unfold lookasidelaw01_FieldApart.j1
      repeat' first
      | (with_reducible exact ih0 _ _ _ _ _)
      | (with_reducible exact ih1 _ _ _ _ _)
      | (with_reducible exact ih2 _ _ _ _ _)
      | (with_reducible exact lookasideref01_Get.mono _ _ _ _)
      | (with_reducible exact LeO.refl _)
      | (with_reducible exact LeO.none _)
      | (with_reducible refine LeO.ite ?_ ?_)
      | (with_reducible refine LeO.bind ?_ (fun _ => ?_))
      | exact ih0 _ _ _ _ _
      | exact ih1 _ _ _ _ _
      | exact ih2 _ _ _ _ _
      | exact lookasideref01_Get.mono _ _ _ _
      | exact LeO.none _
      | refine LeO.ite ?_ ?_
      | refine LeO.bind ?_ (fun _ => ?_)
    · intro y0 y1 y2 y3 y4
      unfold lookasidelaw01_FieldApart.j2
      repeat' first
      | (with_reducible exact ih0 _ _ _ _ _)
      | (with_reducible exact ih1 _ _ _ _ _)
      | (with_reducible exact ih2 _ _ _ _ _)
      | (with_reducible exact lookasideref01_Get.mono _ _ _ _)
      | (with_reducible exact LeO.refl _)
      | (with_reducible exact LeO.none _)
      | (with_reducible refine LeO.ite ?_ ?_)
      | (with_reducible refine LeO.bind ?_ (fun _ => ?_))
      | exact ih0 _ _ _ _ _
      | exact ih1 _ _ _ _ _
      | exact ih2 _ _ _ _ _
      | exact lookasideref01_Get.mono _ _ _ _
      | exact LeO.none _
      | refine LeO.ite ?_ ?_
      | refine LeO.bind ?_ (fun _ => ?_)
theorem lookasidelaw01_FieldApart.mono : ∀ a0 a1 a2 a3 a4 k, LeO (lookasidelaw01_FieldApart.f k a0 a1 a2 a3 a4) (lookasidelaw01_FieldApart.f (k + 1) a0 a1 a2 a3 a4) := by
  intro a0 a1 a2 a3 a4 k
  obtain ⟨ih0, ih1, ih2⟩ := lookasidelaw01_FieldApart.mono_l k
  unfold lookasidelaw01_FieldApart.f
  repeat' first
      | (with_reducible exact ih0 _ _ _ _ _)
      | (with_reducible exact ih1 _ _ _ _ _)
      | (with_reducible exact ih2 _ _ _ _ _)
      | (with_reducible exact lookasideref01_Get.mono _ _ _ _)
      | (with_reducible exact LeO.refl _)
      | (with_reducible exact LeO.none _)
      | (with_reducible refine LeO.ite ?_ ?_)
      | (with_reducible refine LeO.bind ?_ (fun _ => ?_))
      | exact ih0 _ _ _ _ _
      | exact ih1 _ _ _ _ _
      | exact ih2 _ _ _ _ _
      | exact lookasideref01_Get.mono _ _ _ _
      | exact LeO.none _
      | refine LeO.ite ?_ ?_
      | refine LeO.bind ?_ (fun _ => ?_)
set_option maxHeartbeats 8000000 in
set_option maxRecDepth 100000 in
theorem lookasidelaw01_FieldApart.calls (k : Nat) (a0 : Int) (a1 : Int) (a2 : Int) (a3 : Int) (a4 : Int) (r : Bool) (w : World) (h : lookasidelaw01_FieldApart.f k a0 a1 a2 a3 a4 = some r) :
    Calls Try.prog 9 #[.int .i64 a0, .int .i64 a1, .int .i64 a2, .int .u64 a3, .int .u64 a4] w fun e w' => e = .returned (.bool r) ∧ Below w.heap.size w w' := by
  have HB := Aside0.mk (Below.refl w.heap.size w)
  have H : (if a0 < 0 then (lookasidelaw01_FieldApart.j0 k (wrap64 (-(wrap64 (a0 + 1)))) a1 a2 a3 a4) else (lookasidelaw01_FieldApart.j0 k a0 a1 a2 a3 a4)) = some r := h
  clear h
  have HC6 := Aside0.mk H
  clear H
  go_enter Try.func9, Try.ntmps9
  go_upto_if 14 with (fail)
  go_cut [0] (fun v0 wc => ∃ (kq : Nat) (x0_5 : Int), v0 = .int .i64 x0_5 ∧ Aside0 (lookasidelaw01_FieldApart.j0 kq x0_5 a1 a2 a3 a4 = some r) ∧ Aside0 (kq ≤ k) ∧ Aside0 (Below w.heap.size w wc))
  case first =>
    have H := HC6.out
    clear HC6
    by_cases c7 : a0 < 0
    · rw [if_pos c7] at H
      have c7b0 : decide (a0 < 0) = true := decide_eq_true c7
      clear c7
      (first | rw [c7b0] | (simp only [i64_w, i32_w]; rw [c7b0]) | skip)
      have H' := Aside0.mk H
      clear H
      go_wp2
      go_meet
      case rel => exact ⟨_, (wrap64 (-(wrap64 (a0 + 1)))), (by first | rfl | (simp; done) | (simp [*]; done)), H', ⟨by first | omega | exact Nat.le_refl _⟩, ⟨by repeat (first | (with_reducible first | exact HB.out | apply below_alloc | apply pw_below_drewN | apply below_drew1) | exact HB.out)⟩⟩
    · rw [if_neg c7] at H
      have c7b0 : decide (a0 < 0) = false := decide_eq_false c7
      clear c7
      (first | rw [c7b0] | (simp only [i64_w, i32_w]; rw [c7b0]) | skip)
      have H' := Aside0.mk H
      clear H
      go_wp2
      go_meet
      case rel => exact ⟨_, (a0), (by first | rfl | (simp; done) | (simp [*]; done)), H', ⟨by first | omega | exact Nat.le_refl _⟩, ⟨by repeat (first | (with_reducible first | exact HB.out | apply below_alloc | apply pw_below_drewN | apply below_drew1) | exact HB.out)⟩⟩
  case rest =>
    clear HC6
    try clear p2
    try clear p6
    try clear c7
    try clear c7b0
    obtain ⟨kq, x0_5, rfl, HA, HJ5, HB⟩ := hcut
    cases kq with
    | zero => exact absurd HA.out (by simp [lookasidelaw01_FieldApart.j0])
    | succ kj5 =>
      have H := HA.out
      clear HA
      simp only [lookasidelaw01_FieldApart.j0] at H
      have HC8 := Aside0.mk H
      clear H
      go_upto_if 19 with (fail)
      go_cut [1] (fun v1 wc => ∃ (kq : Nat) (x1_7 : Int), v1 = .int .i64 x1_7 ∧ Aside0 (lookasidelaw01_FieldApart.j1 kq x0_5 x1_7 a2 a3 a4 = some r) ∧ Aside0 (kq ≤ kj5) ∧ Aside0 (Below w.heap.size w wc))
      case first =>
        have H := HC8.out
        clear HC8
        by_cases c9 : a1 < 0
        · rw [if_pos c9] at H
          have c9b0 : decide (a1 < 0) = true := decide_eq_true c9
          clear c9
          (first | rw [c9b0] | (simp only [i64_w, i32_w]; rw [c9b0]) | skip)
          have H' := Aside0.mk H
          clear H
          go_wp2
          go_meet
          case rel => exact ⟨_, (wrap64 (-(wrap64 (a1 + 1)))), (by first | rfl | (simp; done) | (simp [*]; done)), H', ⟨by have := HJ5.out; first | omega | exact Nat.le_refl _⟩, ⟨by repeat (first | (with_reducible first | exact HB.out | apply below_alloc | apply pw_below_drewN | apply below_drew1) | exact HB.out)⟩⟩
        · rw [if_neg c9] at H
          have c9b0 : decide (a1 < 0) = false := decide_eq_false c9
          clear c9
          (first | rw [c9b0] | (simp only [i64_w, i32_w]; rw [c9b0]) | skip)
          have H' := Aside0.mk H
          clear H
          go_wp2
          go_meet
          case rel => exact ⟨_, (a1), (by first | rfl | (simp; done) | (simp [*]; done)), H', ⟨by have := HJ5.out; first | omega | exact Nat.le_refl _⟩, ⟨by repeat (first | (with_reducible first | exact HB.out | apply below_alloc | apply pw_below_drewN | apply below_drew1) | exact HB.out)⟩⟩
      case rest =>
        clear HC8
        try clear p2
        try clear p6
        try clear c7
        try clear c7b0
        try clear c9
        try clear c9b0
        try clear p2
        try clear p6
        obtain ⟨kq, x1_7, rfl, HA, HJ7, HB⟩ := hcut
        cases kq with
        | zero => exact absurd HA.out (by simp [lookasidelaw01_FieldApart.j1])
        | succ kj7 =>
          have H := HA.out
          clear HA
          simp only [lookasidelaw01_FieldApart.j1] at H
          have HC10 := Aside0.mk H
          clear H
          go_upto_if 24 with (fail)
          go_cut [2] (fun v2 wc => ∃ (kq : Nat) (x2_9 : Int), v2 = .int .i64 x2_9 ∧ Aside0 (lookasidelaw01_FieldApart.j2 kq x0_5 x1_7 x2_9 a3 a4 = some r) ∧ Aside0 (kq ≤ kj7) ∧ Aside0 (Below w.heap.size w wc))
          case first =>
            have H := HC10.out
            clear HC10
            by_cases c11 : a2 < 0
            · rw [if_pos c11] at H
              have c11b0 : decide (a2 < 0) = true := decide_eq_true c11
              clear c11
              (first | rw [c11b0] | (simp only [i64_w, i32_w]; rw [c11b0]) | skip)
              have H' := Aside0.mk H
              clear H
              go_wp2
              go_meet
              case rel => exact ⟨_, (wrap64 (-(wrap64 (a2 + 1)))), (by first | rfl | (simp; done) | (simp [*]; done)), H', ⟨by have := HJ5.out; have := HJ7.out; first | omega | exact Nat.le_refl _⟩, ⟨by repeat (first | (with_reducible first | exact HB.out | apply below_alloc | apply pw_below_drewN | apply below_drew1) | exact HB.out)⟩⟩
            · rw [if_neg c11] at H
              have c11b0 : decide (a2 < 0) = false := decide_eq_false c11
              clear c11
              (first | rw [c11b0] | (simp only [i64_w, i32_w]; rw [c11b0]) | skip)
              have H' := Aside0.mk H
              clear H
              go_wp2
              go_meet
              case rel => exact ⟨_, (a2), (by first | rfl | (simp; done) | (simp [*]; done)), H', ⟨by have := HJ5.out; have := HJ7.out; first | omega | exact Nat.le_refl _⟩, ⟨by repeat (first | (with_reducible first | exact HB.out | apply below_alloc | apply pw_below_drewN | apply below_drew1) | exact HB.out)⟩⟩
          case rest =>
            clear HC10
            try clear c1
            try clear p2
            try clear p6
            try clear c7
            try clear c7b0
            try clear c9
            try clear c9b0
            try clear c11
            try clear c11b0
            try clear p2
            try clear p6
            obtain ⟨kq, x2_9, rfl, HA, HJ9, HB⟩ := hcut
            cases kq with
            | zero => exact absurd HA.out (by simp [lookasidelaw01_FieldApart.j2])
            | succ kj9 =>
              have H := HA.out
              clear HA
              simp only [lookasidelaw01_FieldApart.j2] at H
              replace H := Option.bind_eq_some_iff.mp H
              obtain ⟨t187, A120, H⟩ := H
              replace H : ((field_Put.f t187 (wrap64 ((Int.tmod x0_5 32) + (wrap64 (1 + (Int.tmod x1_7 16))))) (wrap64 (1 + (Int.tmod x2_9 16))) a4).bind fun t188 => ((field_Put.f 0 (wrap64 ((Int.tmod x0_5 32) + (wrap64 (1 + (Int.tmod x1_7 16))))) (wrap64 (1 + (Int.tmod x2_9 16))) a4).bind fun t189 => ((field_Put.f t189 (Int.tmod x0_5 32) (wrap64 (1 + (Int.tmod x1_7 16))) a3).bind fun t190 => (if t188 = t190 then ((field_Get.f t188 (Int.tmod x0_5 32) (wrap64 (1 + (Int.tmod x1_7 16)))).bind fun t191 => ((lookasideref01_Get.f kj9 a3 0 (wrap64 (1 + (Int.tmod x1_7 16)))).bind fun t192 => (if t191 = t192 then ((field_Get.f t188 (wrap64 ((Int.tmod x0_5 32) + (wrap64 (1 + (Int.tmod x1_7 16))))) (wrap64 (1 + (Int.tmod x2_9 16)))).bind fun t193 => ((lookasideref01_Get.f kj9 a4 0 (wrap64 (1 + (Int.tmod x2_9 16)))).bind fun t194 => (if t193 = t194 then ((lookasidelaw01_lives.f).bind fun t195 => (some t195)) else (some false)))) else (some false)))) else (some false))))) = some r := H
              have A12 := Aside0.mk A120
              clear A120
              replace H := Option.bind_eq_some_iff.mp H
              obtain ⟨t188, A130, H⟩ := H
              replace H : ((field_Put.f 0 (wrap64 ((Int.tmod x0_5 32) + (wrap64 (1 + (Int.tmod x1_7 16))))) (wrap64 (1 + (Int.tmod x2_9 16))) a4).bind fun t189 => ((field_Put.f t189 (Int.tmod x0_5 32) (wrap64 (1 + (Int.tmod x1_7 16))) a3).bind fun t190 => (if t188 = t190 then ((field_Get.f t188 (Int.tmod x0_5 32) (wrap64 (1 + (Int.tmod x1_7 16)))).bind fun t191 => ((lookasideref01_Get.f kj9 a3 0 (wrap64 (1 + (Int.tmod x1_7 16)))).bind fun t192 => (if t191 = t192 then ((field_Get.f t188 (wrap64 ((Int.tmod x0_5 32) + (wrap64 (1 + (Int.tmod x1_7 16))))) (wrap64 (1 + (Int.tmod x2_9 16)))).bind fun t193 => ((lookasideref01_Get.f kj9 a4 0 (wrap64 (1 + (Int.tmod x2_9 16)))).bind fun t194 => (if t193 = t194 then ((lookasidelaw01_lives.f).bind fun t195 => (some t195)) else (some false)))) else (some false)))) else (some false)))) = some r := H
              have A13 := Aside0.mk A130
              clear A130
              replace H := Option.bind_eq_some_iff.mp H
              obtain ⟨t189, A140, H⟩ := H
              replace H : ((field_Put.f t189 (Int.tmod x0_5 32) (wrap64 (1 + (Int.tmod x1_7 16))) a3).bind fun t190 => (if t188 = t190 then ((field_Get.f t188 (Int.tmod x0_5 32) (wrap64 (1 + (Int.tmod x1_7 16)))).bind fun t191 => ((lookasideref01_Get.f kj9 a3 0 (wrap64 (1 + (Int.tmod x1_7 16)))).bind fun t192 => (if t191 = t192 then ((field_Get.f t188 (wrap64 ((Int.tmod x0_5 32) + (wrap64 (1 + (Int.tmod x1_7 16))))) (wrap64 (1 + (Int.tmod x2_9 16)))).bind fun t193 => ((lookasideref01_Get.f kj9 a4 0 (wrap64 (1 + (Int.tmod x2_9 16)))).bind fun t194 => (if t193 = t194 then ((lookasidelaw01_lives.f).bind fun t195 => (some t195)) else (some false)))) else (some false)))) else (some false))) = some r := H
              have A14 := Aside0.mk A140
              clear A140
              replace H := Option.bind_eq_some_iff.mp H
              obtain ⟨t190, A150, H⟩ := H
              replace H : (if t188 = t190 then ((field_Get.f t188 (Int.tmod x0_5 32) (wrap64 (1 + (Int.tmod x1_7 16)))).bind fun t191 => ((lookasideref01_Get.f kj9 a3 0 (wrap64 (1 + (Int.tmod x1_7 16)))).bind fun t192 => (if t191 = t192 then ((field_Get.f t188 (wrap64 ((Int.tmod x0_5 32) + (wrap64 (1 + (Int.tmod x1_7 16))))) (wrap64 (1 + (Int.tmod x2_9 16)))).bind fun t193 => ((lookasideref01_Get.f kj9 a4 0 (wrap64 (1 + (Int.tmod x2_9 16)))).bind fun t194 => (if t193 = t194 then ((lookasidelaw01_lives.f).bind fun t195 => (some t195)) else (some false)))) else (some false)))) else (some false)) = some r := H
              have A15 := Aside0.mk A150
              clear A150
              by_cases c16 : t188 = t190
              · rw [if_pos c16] at H
                have c16b0 : (t188 == t190) = true := beq_iff_eq.mpr c16
                have c16b1 : (t188 != t190) = false := bne_eq_false_iff_eq.mpr c16
                clear c16
                replace H := Option.bind_eq_some_iff.mp H
                obtain ⟨t191, A170, H⟩ := H
                replace H : ((lookasideref01_Get.f kj9 a3 0 (wrap64 (1 + (Int.tmod x1_7 16)))).bind fun t192 => (if t191 = t192 then ((field_Get.f t188 (wrap64 ((Int.tmod x0_5 32) + (wrap64 (1 + (Int.tmod x1_7 16))))) (wrap64 (1 + (Int.tmod x2_9 16)))).bind fun t193 => ((lookasideref01_Get.f kj9 a4 0 (wrap64 (1 + (Int.tmod x2_9 16)))).bind fun t194 => (if t193 = t194 then ((lookasidelaw01_lives.f).bind fun t195 => (some t195)) else (some false)))) else (some false))) = some r := H
                have A17 := Aside0.mk A170
                clear A170
                replace H := Option.bind_eq_some_iff.mp H
                obtain ⟨t192, A180, H⟩ := H
                replace H : (if t191 = t192 then ((field_Get.f t188 (wrap64 ((Int.tmod x0_5 32) + (wrap64 (1 + (Int.tmod x1_7 16))))) (wrap64 (1 + (Int.tmod x2_9 16)))).bind fun t193 => ((lookasideref01_Get.f kj9 a4 0 (wrap64 (1 + (Int.tmod x2_9 16)))).bind fun t194 => (if t193 = t194 then ((lookasidelaw01_lives.f).bind fun t195 => (some t195)) else (some false)))) else (some false)) = some r := H
                have A18 := Aside0.mk A180
                clear A180
                by_cases c19 : t191 = t192
                · rw [if_pos c19] at H
                  have c19b0 : (t191 == t192) = true := beq_iff_eq.mpr c19
                  have c19b1 : (t191 != t192) = false := bne_eq_false_iff_eq.mpr c19
                  clear c19
                  replace H := Option.bind_eq_some_iff.mp H
                  obtain ⟨t193, A200, H⟩ := H
                  replace H : ((lookasideref01_Get.f kj9 a4 0 (wrap64 (1 + (Int.tmod x2_9 16)))).bind fun t194 => (if t193 = t194 then ((lookasidelaw01_lives.f).bind fun t195 => (some t195)) else (some false))) = some r := H
                  have A20 := Aside0.mk A200
                  clear A200
                  replace H := Option.bind_eq_some_iff.mp H
                  obtain ⟨t194, A210, H⟩ := H
                  replace H : (if t193 = t194 then ((lookasidelaw01_lives.f).bind fun t195 => (some t195)) else (some false)) = some r := H
                  have A21 := Aside0.mk A210
                  clear A210
                  by_cases c22 : t193 = t194
                  · rw [if_pos c22] at H
                    have c22b0 : (t193 == t194) = true := beq_iff_eq.mpr c22
                    have c22b1 : (t193 != t194) = false := bne_eq_false_iff_eq.mpr c22
                    clear c22
                    replace H := Option.bind_eq_some_iff.mp H
                    obtain ⟨t195, A230, H⟩ := H
                    replace H : (some t195) = some r := H
                    have A23 := Aside0.mk A230
                    clear A230
                    obtain rfl := Option.some.inj H
                    go_wp2_with (first | ((with_reducible refine gate_callee (f := 38) rfl ?_); refine goesL_ (some 39) rfl rfl Try.func38 (by kernel_rfl) rfl #[.int .u64 0, .int .i64 (Int.tmod x0_5 32), .int .i64 (wrap64 (1 + (Int.tmod x1_7 16))), .int .u64 a3] rfl (by (try simp only [List.map_toArray, List.map_cons, List.map_nil]); first | done | rfl | (simp only [List.length_drop, List.length_take]; rfl)) ?_; (with_reducible refine (field_Put.calls 0 (Int.tmod x0_5 32) (wrap64 (1 + (Int.tmod x1_7 16))) a3 t187 _ A12.out).mono ?_); rintro e w' ⟨rfl, ⟨nd, rfl⟩⟩; refine ⟨_, rfl, ?_⟩) | ((with_reducible refine gate_callee (f := 38) rfl ?_); refine goesL_ (some 45) rfl rfl Try.func38 (by kernel_rfl) rfl #[.int .u64 t187, .int .i64 (wrap64 ((Int.tmod x0_5 32) + (wrap64 (1 + (Int.tmod x1_7 16))))), .int .i64 (wrap64 (1 + (Int.tmod x2_9 16))), .int .u64 a4] rfl (by (try simp only [List.map_toArray, List.map_cons, List.map_nil]); first | done | rfl | (simp only [List.length_drop, List.length_take]; rfl)) ?_; (with_reducible refine (field_Put.calls t187 (wrap64 ((Int.tmod x0_5 32) + (wrap64 (1 + (Int.tmod x1_7 16))))) (wrap64 (1 + (Int.tmod x2_9 16))) a4 t188 _ A13.out).mono ?_); rintro e w' ⟨rfl, ⟨nd, rfl⟩⟩; refine ⟨_, rfl, ?_⟩) | ((with_reducible refine gate_callee (f := 38) rfl ?_); refine goesL_ (some 51) rfl rfl Try.func38 (by kernel_rfl) rfl #[.int .u64 0, .int .i64 (wrap64 ((Int.tmod x0_5 32) + (wrap64 (1 + (Int.tmod x1_7 16))))), .int .i64 (wrap64 (1 + (Int.tmod x2_9 16))), .int .u64 a4] rfl (by (try simp only [List.map_toArray, List.map_cons, List.map_nil]); first | done | rfl | (simp only [List.length_drop, List.length_take]; rfl)) ?_; (with_reducible refine (field_Put.calls 0 (wrap64 ((Int.tmod x0_5 32) + (wrap64 (1 + (Int.tmod x1_7 16))))) (wrap64 (1 + (Int.tmod x2_9 16))) a4 t189 _ A14.out).mono ?_); rintro e w' ⟨rfl, ⟨nd, rfl⟩⟩; refine ⟨_, rfl, ?_⟩) | ((with_reducible refine gate_callee (f := 38) rfl ?_); refine goesL_ (some 55) rfl rfl Try.func38 (by kernel_rfl) rfl #[.int .u64 t189, .int .i64 (Int.tmod x0_5 32), .int .i64 (wrap64 (1 + (Int.tmod x1_7 16))), .int .u64 a3] rfl (by (try simp only [List.map_toArray, List.map_cons, List.map_nil]); first | done | rfl | (simp only [List.length_drop, List.length_take]; rfl)) ?_; (with_reducible refine (field_Put.calls t189 (Int.tmod x0_5 32) (wrap64 (1 + (Int.tmod x1_7 16))) a3 t190 _ A15.out).mono ?_); rintro e w' ⟨rfl, ⟨nd, rfl⟩⟩; refine ⟨_, rfl, ?_⟩) | (go_at_call 36; (with_reducible refine (field_Get.calls t188 (Int.tmod x0_5 32) (wrap64 (1 + (Int.tmod x1_7 16))) t191 _ A17.out).mono ?_); rintro e w' ⟨rfl, ⟨nd, rfl⟩⟩) | (go_at_call 37; (with_reducible refine (lookasideref01_Get.calls kj9 a3 0 (wrap64 (1 + (Int.tmod x1_7 16))) t192 _ A18.out).mono ?_); rintro e w' ⟨rfl, ⟨nd, rfl⟩⟩) | (go_at_call 36; (with_reducible refine (field_Get.calls t188 (wrap64 ((Int.tmod x0_5 32) + (wrap64 (1 + (Int.tmod x1_7 16))))) (wrap64 (1 + (Int.tmod x2_9 16))) t193 _ A20.out).mono ?_); rintro e w' ⟨rfl, ⟨nd, rfl⟩⟩) | (go_at_call 37; (with_reducible refine (lookasideref01_Get.calls kj9 a4 0 (wrap64 (1 + (Int.tmod x2_9 16))) t194 _ A21.out).mono ?_); rintro e w' ⟨rfl, ⟨nd, rfl⟩⟩) | (go_at_call 40; (with_reducible refine (lookasidelaw01_lives.calls  t195 _ A23.out).mono ?_); rintro e w24 ⟨rfl, hb⟩; have n0_ := Aside0.mk (below_step (by repeat (first | (with_reducible first | exact HB.out | apply below_alloc | apply pw_below_drewN | apply below_drew1) | exact HB.out)) hb); clear HB; have HB := n0_; clear n0_; (try clear hb); (try clear hb2); (try clear hk); (try clear hi)))
                    go_ret
                    exact ⟨by first | rfl | (simp [errW_none, errW_some] <;> rfl) | (simp [*, errW_none, errW_some] <;> rfl), by repeat (first | (with_reducible first | exact HB.out | apply below_alloc | apply pw_below_drewN | apply below_drew1) | exact HB.out)⟩
                  · rw [if_neg c22] at H
                    have c22b0 : (t193 == t194) = false := beq_eq_false_iff_ne.mpr c22
                    have c22b1 : (t193 != t194) = true := bne_iff_ne.mpr c22
                    obtain rfl := Option.some.inj H
                    go_wp2_with (first | ((with_reducible refine gate_callee (f := 38) rfl ?_); refine goesL_ (some 39) rfl rfl Try.func38 (by kernel_rfl) rfl #[.int .u64 0, .int .i64 (Int.tmod x0_5 32), .int .i64 (wrap64 (1 + (Int.tmod x1_7 16))), .int .u64 a3] rfl (by (try simp only [List.map_toArray, List.map_cons, List.map_nil]); first | done | rfl | (simp only [List.length_drop, List.length_take]; rfl)) ?_; (with_reducible refine (field_Put.calls 0 (Int.tmod x0_5 32) (wrap64 (1 + (Int.tmod x1_7 16))) a3 t187 _ A12.out).mono ?_); rintro e w' ⟨rfl, ⟨nd, rfl⟩⟩; refine ⟨_, rfl, ?_⟩) | ((with_reducible refine gate_callee (f := 38) rfl ?_); refine goesL_ (some 45) rfl rfl Try.func38 (by kernel_rfl) rfl #[.int .u64 t187, .int .i64 (wrap64 ((Int.tmod x0_5 32) + (wrap64 (1 + (Int.tmod x1_7 16))))), .int .i64 (wrap64 (1 + (Int.tmod x2_9 16))), .int .u64 a4] rfl (by (try simp only [List.map_toArray, List.map_cons, List.map_nil]); first | done | rfl | (simp only [List.length_drop, List.length_take]; rfl)) ?_; (with_reducible refine (field_Put.calls t187 (wrap64 ((Int.tmod x0_5 32) + (wrap64 (1 + (Int.tmod x1_7 16))))) (wrap64 (1 + (Int.tmod x2_9 16))) a4 t188 _ A13.out).mono ?_); rintro e w' ⟨rfl, ⟨nd, rfl⟩⟩; refine ⟨_, rfl, ?_⟩) | ((with_reducible refine gate_callee (f := 38) rfl ?_); refine goesL_ (some 51) rfl rfl Try.func38 (by kernel_rfl) rfl #[.int .u64 0, .int .i64 (wrap64 ((Int.tmod x0_5 32) + (wrap64 (1 + (Int.tmod x1_7 16))))), .int .i64 (wrap64 (1 + (Int.tmod x2_9 16))), .int .u64 a4] rfl (by (try simp only [List.map_toArray, List.map_cons, List.map_nil]); first | done | rfl | (simp only [List.length_drop, List.length_take]; rfl)) ?_; (with_reducible refine (field_Put.calls 0 (wrap64 ((Int.tmod x0_5 32) + (wrap64 (1 + (Int.tmod x1_7 16))))) (wrap64 (1 + (Int.tmod x2_9 16))) a4 t189 _ A14.out).mono ?_); rintro e w' ⟨rfl, ⟨nd, rfl⟩⟩; refine ⟨_, rfl, ?_⟩) | ((with_reducible refine gate_callee (f := 38) rfl ?_); refine goesL_ (some 55) rfl rfl Try.func38 (by kernel_rfl) rfl #[.int .u64 t189, .int .i64 (Int.tmod x0_5 32), .int .i64 (wrap64 (1 + (Int.tmod x1_7 16))), .int .u64 a3] rfl (by (try simp only [List.map_toArray, List.map_cons, List.map_nil]); first | done | rfl | (simp only [List.length_drop, List.length_take]; rfl)) ?_; (with_reducible refine (field_Put.calls t189 (Int.tmod x0_5 32) (wrap64 (1 + (Int.tmod x1_7 16))) a3 t190 _ A15.out).mono ?_); rintro e w' ⟨rfl, ⟨nd, rfl⟩⟩; refine ⟨_, rfl, ?_⟩) | (go_at_call 36; (with_reducible refine (field_Get.calls t188 (Int.tmod x0_5 32) (wrap64 (1 + (Int.tmod x1_7 16))) t191 _ A17.out).mono ?_); rintro e w' ⟨rfl, ⟨nd, rfl⟩⟩) | (go_at_call 37; (with_reducible refine (lookasideref01_Get.calls kj9 a3 0 (wrap64 (1 + (Int.tmod x1_7 16))) t192 _ A18.out).mono ?_); rintro e w' ⟨rfl, ⟨nd, rfl⟩⟩) | (go_at_call 36; (with_reducible refine (field_Get.calls t188 (wrap64 ((Int.tmod x0_5 32) + (wrap64 (1 + (Int.tmod x1_7 16))))) (wrap64 (1 + (Int.tmod x2_9 16))) t193 _ A20.out).mono ?_); rintro e w' ⟨rfl, ⟨nd, rfl⟩⟩) | (go_at_call 37; (with_reducible refine (lookasideref01_Get.calls kj9 a4 0 (wrap64 (1 + (Int.tmod x2_9 16))) t194 _ A21.out).mono ?_); rintro e w' ⟨rfl, ⟨nd, rfl⟩⟩))
                    go_ret
                    exact ⟨by first | rfl | (simp [errW_none, errW_some] <;> rfl) | (simp [*, errW_none, errW_some] <;> rfl), by repeat (first | (with_reducible first | exact HB.out | apply below_alloc | apply pw_below_drewN | apply below_drew1) | exact HB.out)⟩
                · rw [if_neg c19] at H
                  have c19b0 : (t191 == t192) = false := beq_eq_false_iff_ne.mpr c19
                  have c19b1 : (t191 != t192) = true := bne_iff_ne.mpr c19
                  obtain rfl := Option.some.inj H
                  go_wp2_with (first | ((with_reducible refine gate_callee (f := 38) rfl ?_); refine goesL_ (some 39) rfl rfl Try.func38 (by kernel_rfl) rfl #[.int .u64 0, .int .i64 (Int.tmod x0_5 32), .int .i64 (wrap64 (1 + (Int.tmod x1_7 16))), .int .u64 a3] rfl (by (try simp only [List.map_toArray, List.map_cons, List.map_nil]); first | done | rfl | (simp only [List.length_drop, List.length_take]; rfl)) ?_; (with_reducible refine (field_Put.calls 0 (Int.tmod x0_5 32) (wrap64 (1 + (Int.tmod x1_7 16))) a3 t187 _ A12.out).mono ?_); rintro e w' ⟨rfl, ⟨nd, rfl⟩⟩; refine ⟨_, rfl, ?_⟩) | ((with_reducible refine gate_callee (f := 38) rfl ?_); refine goesL_ (some 45) rfl rfl Try.func38 (by kernel_rfl) rfl #[.int .u64 t187, .int .i64 (wrap64 ((Int.tmod x0_5 32) + (wrap64 (1 + (Int.tmod x1_7 16))))), .int .i64 (wrap64 (1 + (Int.tmod x2_9 16))), .int .u64 a4] rfl (by (try simp only [List.map_toArray, List.map_cons, List.map_nil]); first | done | rfl | (simp only [List.length_drop, List.length_take]; rfl)) ?_; (with_reducible refine (field_Put.calls t187 (wrap64 ((Int.tmod x0_5 32) + (wrap64 (1 + (Int.tmod x1_7 16))))) (wrap64 (1 + (Int.tmod x2_9 16))) a4 t188 _ A13.out).mono ?_); rintro e w' ⟨rfl, ⟨nd, rfl⟩⟩; refine ⟨_, rfl, ?_⟩) | ((with_reducible refine gate_callee (f := 38) rfl ?_); refine goesL_ (some 51) rfl rfl Try.func38 (by kernel_rfl) rfl #[.int .u64 0, .int .i64 (wrap64 ((Int.tmod x0_5 32) + (wrap64 (1 + (Int.tmod x1_7 16))))), .int .i64 (wrap64 (1 + (Int.tmod x2_9 16))), .int .u64 a4] rfl (by (try simp only [List.map_toArray, List.map_cons, List.map_nil]); first | done | rfl | (simp only [List.length_drop, List.length_take]; rfl)) ?_; (with_reducible refine (field_Put.calls 0 (wrap64 ((Int.tmod x0_5 32) + (wrap64 (1 + (Int.tmod x1_7 16))))) (wrap64 (1 + (Int.tmod x2_9 16))) a4 t189 _ A14.out).mono ?_); rintro e w' ⟨rfl, ⟨nd, rfl⟩⟩; refine ⟨_, rfl, ?_⟩) | ((with_reducible refine gate_callee (f := 38) rfl ?_); refine goesL_ (some 55) rfl rfl Try.func38 (by kernel_rfl) rfl #[.int .u64 t189, .int .i64 (Int.tmod x0_5 32), .int .i64 (wrap64 (1 + (Int.tmod x1_7 16))), .int .u64 a3] rfl (by (try simp only [List.map_toArray, List.map_cons, List.map_nil]); first | done | rfl | (simp only [List.length_drop, List.length_take]; rfl)) ?_; (with_reducible refine (field_Put.calls t189 (Int.tmod x0_5 32) (wrap64 (1 + (Int.tmod x1_7 16))) a3 t190 _ A15.out).mono ?_); rintro e w' ⟨rfl, ⟨nd, rfl⟩⟩; refine ⟨_, rfl, ?_⟩) | (go_at_call 36; (with_reducible refine (field_Get.calls t188 (Int.tmod x0_5 32) (wrap64 (1 + (Int.tmod x1_7 16))) t191 _ A17.out).mono ?_); rintro e w' ⟨rfl, ⟨nd, rfl⟩⟩) | (go_at_call 37; (with_reducible refine (lookasideref01_Get.calls kj9 a3 0 (wrap64 (1 + (Int.tmod x1_7 16))) t192 _ A18.out).mono ?_); rintro e w' ⟨rfl, ⟨nd, rfl⟩⟩))
                  go_ret
                  exact ⟨by first | rfl | (simp [errW_none, errW_some] <;> rfl) | (simp [*, errW_none, errW_some] <;> rfl), by repeat (first | (with_reducible first | exact HB.out | apply below_alloc | apply pw_below_drewN | apply below_drew1) | exact HB.out)⟩
              · rw [if_neg c16] at H
                have c16b0 : (t188 == t190) = false := beq_eq_false_iff_ne.mpr c16
                have c16b1 : (t188 != t190) = true := bne_iff_ne.mpr c16
                obtain rfl := Option.some.inj H
                go_wp2_with (first | ((with_reducible refine gate_callee (f := 38) rfl ?_); refine goesL_ (some 39) rfl rfl Try.func38 (by kernel_rfl) rfl #[.int .u64 0, .int .i64 (Int.tmod x0_5 32), .int .i64 (wrap64 (1 + (Int.tmod x1_7 16))), .int .u64 a3] rfl (by (try simp only [List.map_toArray, List.map_cons, List.map_nil]); first | done | rfl | (simp only [List.length_drop, List.length_take]; rfl)) ?_; (with_reducible refine (field_Put.calls 0 (Int.tmod x0_5 32) (wrap64 (1 + (Int.tmod x1_7 16))) a3 t187 _ A12.out).mono ?_); rintro e w' ⟨rfl, ⟨nd, rfl⟩⟩; refine ⟨_, rfl, ?_⟩) | ((with_reducible refine gate_callee (f := 38) rfl ?_); refine goesL_ (some 45) rfl rfl Try.func38 (by kernel_rfl) rfl #[.int .u64 t187, .int .i64 (wrap64 ((Int.tmod x0_5 32) + (wrap64 (1 + (Int.tmod x1_7 16))))), .int .i64 (wrap64 (1 + (Int.tmod x2_9 16))), .int .u64 a4] rfl (by (try simp only [List.map_toArray, List.map_cons, List.map_nil]); first | done | rfl | (simp only [List.length_drop, List.length_take]; rfl)) ?_; (with_reducible refine (field_Put.calls t187 (wrap64 ((Int.tmod x0_5 32) + (wrap64 (1 + (Int.tmod x1_7 16))))) (wrap64 (1 + (Int.tmod x2_9 16))) a4 t188 _ A13.out).mono ?_); rintro e w' ⟨rfl, ⟨nd, rfl⟩⟩; refine ⟨_, rfl, ?_⟩) | ((with_reducible refine gate_callee (f := 38) rfl ?_); refine goesL_ (some 51) rfl rfl Try.func38 (by kernel_rfl) rfl #[.int .u64 0, .int .i64 (wrap64 ((Int.tmod x0_5 32) + (wrap64 (1 + (Int.tmod x1_7 16))))), .int .i64 (wrap64 (1 + (Int.tmod x2_9 16))), .int .u64 a4] rfl (by (try simp only [List.map_toArray, List.map_cons, List.map_nil]); first | done | rfl | (simp only [List.length_drop, List.length_take]; rfl)) ?_; (with_reducible refine (field_Put.calls 0 (wrap64 ((Int.tmod x0_5 32) + (wrap64 (1 + (Int.tmod x1_7 16))))) (wrap64 (1 + (Int.tmod x2_9 16))) a4 t189 _ A14.out).mono ?_); rintro e w' ⟨rfl, ⟨nd, rfl⟩⟩; refine ⟨_, rfl, ?_⟩) | ((with_reducible refine gate_callee (f := 38) rfl ?_); refine goesL_ (some 55) rfl rfl Try.func38 (by kernel_rfl) rfl #[.int .u64 t189, .int .i64 (Int.tmod x0_5 32), .int .i64 (wrap64 (1 + (Int.tmod x1_7 16))), .int .u64 a3] rfl (by (try simp only [List.map_toArray, List.map_cons, List.map_nil]); first | done | rfl | (simp only [List.length_drop, List.length_take]; rfl)) ?_; (with_reducible refine (field_Put.calls t189 (Int.tmod x0_5 32) (wrap64 (1 + (Int.tmod x1_7 16))) a3 t190 _ A15.out).mono ?_); rintro e w' ⟨rfl, ⟨nd, rfl⟩⟩; refine ⟨_, rfl, ?_⟩))
                go_ret
                exact ⟨by first | rfl | (simp [errW_none, errW_some] <;> rfl) | (simp [*, errW_none, errW_some] <;> rfl), by repeat (first | (with_reducible first | exact HB.out | apply below_alloc | apply pw_below_drewN | apply below_drew1) | exact HB.out)⟩

/-- THE ONE PURE STATEMENT of lookasidelaw01_FieldApart: yours. -/
def lookasidelaw01_FieldApart.Pure : Prop := ∀ (a0 : Int) (a1 : Int) (a2 : Int) (a3 : Int) (a4 : Int), (Lit.int .i64 a0).wf = true → (Lit.int .i64 a1).wf = true → (Lit.int .i64 a2).wf = true → (Lit.int .u64 a3).wf = true → (Lit.int .u64 a4).wf = true → ∃ k, lookasidelaw01_FieldApart.f k a0 a1 a2 a3 a4 = some true
theorem lookasidelaw01_FieldApart.walk (P : lookasidelaw01_FieldApart.Pure) (a0 : Int) (a1 : Int) (a2 : Int) (a3 : Int) (a4 : Int) (w : World) (w0 : (Lit.int .i64 a0).wf = true) (w1 : (Lit.int .i64 a1).wf = true) (w2 : (Lit.int .i64 a2).wf = true) (w3 : (Lit.int .u64 a3).wf = true) (w4 : (Lit.int .u64 a4).wf = true) :
    Calls Try.prog 9 #[.int .i64 a0, .int .i64 a1, .int .i64 a2, .int .u64 a3, .int .u64 a4] w fun e w' => e = .returned (.bool true) ∧ Below w.heap.size w w' := by
  obtain ⟨k, h⟩ := P a0 a1 a2 a3 a4 w0 w1 w2 w3 w4
  refine (lookasidelaw01_FieldApart.calls k a0 a1 a2 a3 a4 true w h).mono ?_
  rintro e w' ⟨rfl, hd⟩
  exact ⟨rfl, hd⟩

end Go.Proofs.Ytlkojjkgbcpjjaa.PA
