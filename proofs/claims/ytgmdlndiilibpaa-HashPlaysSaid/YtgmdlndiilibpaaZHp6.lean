import Derived.RangeFuncCalls
import Derived.OwnWalkIn
import Derived.Test.YtgmdlndiilibpaaZHp1
import Derived.Test.YtgmdlndiilibpaaZHp3
import Derived.Test.YtgmdlndiilibpaaZHp5
import Derived.RangeFuncNested
/- A region that draws its order, INSIDE a wide fence (in a round of a loop over a function too): by the same steps as everywhere (start_, pure_, take_, one_, done_). -/
namespace Go.Proofs.Ytgmdlndiilibpaa.PH
open Go.Proofs.YtgmdlndiilibpaaW.PrintLast
section
variable {F : Fence} {P : Program} {ops : Array Oper} {Q : Exit → Act → World → Prop} {S : World → Prop} {ds : List Nat}
def isDefer : Op → Bool
  | .defer _ => true
  | _ => false
theorem rows_in (hfe : ∀ m : Machine, m.fenced P F ↔ m.fenced P Fence.wide) {n : Nat} {row : String} {args : Array Value} {w : World} {R : Value → World → Prop} (h : Rows P row args w R) : RowsIn F n P row args w R := fun c cs _ => by
  obtain ⟨v, w', hr, hs⟩ := h c cs
  refine ⟨v, w', hr, ?_⟩
  have : Machine.fenced P F = Machine.fenced P Fence.wide := funext fun m => propext (hfe m)
  rw [this]
  exact stepsIn_wide.2 hs
theorem calls_in (hfe : ∀ m : Machine, m.fenced P F ↔ m.fenced P Fence.wide) (hfn : ∀ f, F.fn f) {n : Nat} {f : FuncId} {args : Array Value} {w : World} {R : Ending → World → Prop} (h : Calls P f args w R) : CallsIn F n P f args w R := by
  refine ⟨hfn f, fun cs _ => ?_⟩
  obtain ⟨e, w', fr, r, s, x⟩ := h cs
  have : Machine.fenced P F = Machine.fenced P Fence.wide := funext fun m => propext (hfe m)
  rw [this]
  exact ⟨e, w', fr, r, comesIn_wide.2 s, x⟩
theorem opsIn_of (hfe : ∀ m : Machine, m.fenced P F ↔ m.fenced P Fence.wide) (hfn : ∀ f, F.fn f) (hdp : F.depth = none) (hno : (ops.all fun o => !isDefer o.op) = true) (hQ : ∀ a w, ¬ Q .outgrown a w) (n : Nat) :
    ∀ (l : List Nat) (a : Act) (w : World), wpOps P ops Q l a w → wpOpsIn F n P ops Q l a w := by
  intro l
  induction l with
  | nil => intro a w h; exact h
  | cons i rest ih =>
    intro a w h
    unfold wpOps at h
    unfold wpOpsIn
    cases ho : ops[i]? with
    | none => simp only [ho] at h ⊢; exact ih a w h
    | some o =>
      simp only [ho] at h ⊢
      split
      · rename_i hw
        simp only [hw, if_true] at h
        rcases h with h | ⟨_, a0, w0, h0⟩
        · refine ⟨fun f _ => hfn f, ?_⟩
          have hnd : ∀ c, o.op ≠ .defer c := fun c e => by
            have h1 := Array.all_eq_true.1 hno i (Array.getElem?_eq_some_iff.1 ho).1
            rw [(Array.getElem?_eq_some_iff.1 ho).2, e] at h1
            simp [isDefer] at h1
          rw [Oper.semAt_eq F.round a.eval o hnd]
          unfold Oper.wp at h
          generalize (execOp a.eval o).run P w = r at h ⊢
          cases r with
          | ok x w' =>
            cases x with
            | value v => exact ih _ _ h
            | skip => exact ih _ _ h
            | defer d => exact ih _ _ h
            | enter f args =>
              refine ⟨fun hd => (by rw [hdp] at hd; cases hd), calls_in hfe hfn (Calls.mono h ?_)⟩
              intro e w'' he
              cases e with
              | returned v => exact ih _ _ he
              | panicked c => exact he
              | outgrown => exact he
            | row row args =>
              exact ⟨fun hd => (by rw [hdp] at hd; cases hd), rows_in hfe (Rows.mono h fun v w'' he => ih _ _ he)⟩
            | _ => exact (h : False).elim
          | halt x w' =>
            cases x with
            | panic v => exact h
            | _ => exact (h : False).elim
        · exact (hQ a0 w0 h0).elim
      · rename_i hw
        simp only [hw] at h
        exact ⟨fun f _ => hfn f, ih _ _ h⟩
/-- start_ INSIDE A WIDE FENCE. -/
theorem startIn_ (hfe : ∀ m : Machine, m.fenced P F ↔ m.fenced P Fence.wide) (hfn : ∀ f, F.fn f) (hdp : F.depth = none) (hno : (ops.all fun o => !isDefer o.op) = true) (hQ : ∀ a w, ¬ Q .outgrown a w)
    {id n n' : Nat} {a : Act} {w : World} (l : Array Bool) (hm : P.follows .mixedOrders = true) (hn : ops.size = n) (hl : Array.replicate n false = l) (hS : S w.drew)
    (h : S w.drew → wpAnyLast P .any ops Q S ds n l a w.drew) : (Code.region id ops true).wpIn F n' P Q a w := by
  subst hn
  subst hl
  refine wpIn_region_draw fun t => ?_
  simp only [Region.schedule, hm, Bool.true_or, if_true]
  exact opsIn_of hfe hfn hdp hno hQ n' _ _ _ (wpAny_sound _ _ _ _ _ (wpAny_of_last _ _ _ _ (h hS)))
end
theorem wide_round {P : Program} {l : Nat} : ∀ m : Machine, m.fenced P (Fence.wide.inRound l) ↔ m.fenced P Fence.wide := fun _ => Iff.rfl
end Go.Proofs.Ytgmdlndiilibpaa.PH

/- lookasidelaw11.all over the table's iterator: true where what is wanted is what the table has. Written by mkall.py. -/
set_option linter.unusedVariables false
set_option linter.unusedSimpArgs false
namespace Go.Proofs.Ytgmdlndiilibpaa.PH
open Go.RowKit Go.Shelf Go.Proofs.YtgmdlndiilibpaaW.PrintWords Go.Proofs.YtgmdlndiilibpaaW.PrintLast Go.Proofs.YtgmdlndiilibpaaW.PrintMore Go.Proofs.Ytgmdlndiilibpaa.Tab
attribute [local go_sem] Oper.semAt_some
def keq (x0 x1 x2 y0 y1 y2 : Int) : Bool := x0 == y0 && (x1 == y1 && (x2 == y2))
theorem eqA27k (d : Nat) (w : World) (x0 y0 : Int) (x1 y1 : Int) (x2 y2 : Int) :
    (Op.equalIn (d + 2) 27 (.agg #[.int .i64 x0, .int .u64 x1, .int .i64 x2]) (.agg #[.int .i64 y0, .int .u64 y1, .int .i64 y2])).run Try.prog w = .ok (keq x0 x1 x2 y0 y1 y2) w := eqA27 d w x0 y0 x1 y1 x2 y2
attribute [local go_sem high] eqA27k
theorem own27 {β : Type} (B : Nat) (v : Value) (a b c : Value) : Own (fun (_ : β) W => W.heap[B]? = some (.cells #[a, b, c] 27 (0, 0))) := fun s X Y row hs hg hr =>
  (grownBy_keeps_cells hg hr hs rfl).trans hs
theorem eql_func (W : World) (f : Fn) (a c : Array Value) : (binOp .eql 130 (.func f a c) .nilFunc).run Try.prog W = .ok (.bool false) W := by
  have h : ∀ d : Nat, (Op.equalIn (d + 1) 130 (.func f a c) .nilFunc).run Try.prog W = .ok false W := fun d => by
    simp [Op.equalIn, run_underlying Try.underlying130]
  have h2 := h 9999
  simp [binOp, Op.equal, Op.maxDepth, h2]
attribute [local go_sem] eql_func
theorem wrap_i64_small {n : Int} (h1 : -9223372036854775808 ≤ n) (h2 : n < 9223372036854775808) : IntKind.i64.wrap n = n := by
  rw [IntKind.wrap_i64]; omega
/-- A node, as the document has it. -/
def nd128 (n : Nd) : S128 := ⟨⟨n.sp, n.va, n.sz⟩, n.v⟩
theorem pre_next {pre : List Nd} {x : Nd} {Z : List S128} (h : (pre ++ [x]).map nd128 <+: Z) : rd_T128 Z pre.length = nd128 x := by
  obtain ⟨s, rfl⟩ := h
  simp [rd_T128, List.getD_eq_getElem?_getD]
set_option maxHeartbeats 4000000 in
set_option maxRecDepth 100000 in
theorem all_calls (w : World) (b c : Nat) (L : List (List Nd)) (free n : Int) (hT : At 116 120 123 w b c L free n) (hN : L.flatten.length ≤ 1000000000000) (most : Int) (A : Option Addr) (cap : Nat) (hcap : (L.flatten.map nd128).length ≤ cap)
    (hz : Kd.C k128 w A (L.flatten.map nd128).length (L.flatten.map nd128)) :
    Calls Try.prog 41 #[.pointer (some ⟨b, 0, none⟩), .slice A (L.flatten.map nd128).length cap, .int .i64 most] w fun e w' => e = .returned (.bool true) ∧ Below w.heap.size w w' := by
  obtain ⟨Z, hZ⟩ : ∃ Z, Z = L.flatten.map nd128 := ⟨_, rfl⟩
  rw [← hZ] at hz hcap ⊢
  have HZ := Aside0.mk hZ
  have HT := Aside0.mk hT
  clear hZ hT
  refine (callsIn_wide (n := 5)).1 ?_
  have h1 : 1 ≤ 5 := by omega
  refine callsIn_of_wp_marks Try.func41 rfl trivial ?_ rfl
  simp only [Try.ntmps41, List.size_toArray, List.length_cons, List.length_nil, Nat.reduceAdd, Nat.reduceSub, Array.replicate_succ, Array.replicate_zero, List.push_toArray, List.append_toArray, List.nil_append, List.cons_append]
  gi_wp2_with (refine ⟨trivial, ?_⟩; gi_at_call 71; refine (all_in Fence.wide _ trivial rfl _ _).mono ?_; rintro e w' ⟨rfl, rfl⟩)
  obtain ⟨B, hB⟩ : ∃ B, w.heap.size = B := ⟨_, rfl⟩
  have b0 := ((((Boxed.new w 76 (.slice A Z.length cap)).alloc (.cells #[.int .i64 most] 3)).alloc (.cells #[.bool false] 4)).alloc (.cells #[.pointer (some ⟨b, 0, none⟩)] 58)).alloc (.cells #[.int .i64 0] 3)
  have b1 := (((Boxed.new (w.alloc (.cells #[.slice A Z.length cap] 76)) 3 (.int .i64 most)).alloc (.cells #[.bool false] 4)).alloc (.cells #[.pointer (some ⟨b, 0, none⟩)] 58)).alloc (.cells #[.int .i64 0] 3)
  have b2 := ((Boxed.new ((w.alloc (.cells #[.slice A Z.length cap] 76)).alloc (.cells #[.int .i64 most] 3)) 4 (.bool false)).alloc (.cells #[.pointer (some ⟨b, 0, none⟩)] 58)).alloc (.cells #[.int .i64 0] 3)
  have b3 := (Boxed.new (((w.alloc (.cells #[.slice A Z.length cap] 76)).alloc (.cells #[.int .i64 most] 3)).alloc (.cells #[.bool false] 4)) 58 (.pointer (some ⟨b, 0, none⟩))).alloc (.cells #[.int .i64 0] 3)
  have b4 := Boxed.new ((((w.alloc (.cells #[.slice A Z.length cap] 76)).alloc (.cells #[.int .i64 most] 3)).alloc (.cells #[.bool false] 4)).alloc (.cells #[.pointer (some ⟨b, 0, none⟩)] 58)) 3 (.int .i64 0)
  simp only [World.size_alloc] at b1 b2 b3 b4
  have hB0 : Below w.heap.size w (((((w.alloc (.cells #[.slice A Z.length cap] 76)).alloc (.cells #[.int .i64 most] 3)).alloc (.cells #[.bool false] 4)).alloc (.cells #[.pointer (some ⟨b, 0, none⟩)] 58)).alloc (.cells #[.int .i64 0] 3)) :=
    (((((Below.refl _ w).alloc (Nat.le_refl _) _).alloc (by simp) _).alloc (by simp; omega) _).alloc (by simp; omega) _).alloc (by simp; omega) _
  have hsz : (((((w.alloc (.cells #[.slice A Z.length cap] 76)).alloc (.cells #[.int .i64 most] 3)).alloc (.cells #[.bool false] 4)).alloc (.cells #[.pointer (some ⟨b, 0, none⟩)] 58)).alloc (.cells #[.int .i64 0] 3)).heap.size = w.heap.size + 5 := by simp
  obtain ⟨W0, hW0⟩ : ∃ W0, ((((w.alloc (.cells #[.slice A Z.length cap] 76)).alloc (.cells #[.int .i64 most] 3)).alloc (.cells #[.bool false] 4)).alloc (.cells #[.pointer (some ⟨b, 0, none⟩)] 58)).alloc (.cells #[.int .i64 0] 3) = W0 := ⟨_, rfl⟩
  rw [hW0] at b0 b1 b2 b3 b4 hB0 hsz ⊢
  clear hW0
  have hTB : ∀ k ∈ ids b c L, k < w.heap.size := HT.out.lt
  have hT0 := HT.out.below hB0
  have hzB := fun (W : World) (h : Below w.heap.size w W) => Kd.C_below hz h
  clear hz
  rw [hB] at b0 b1 b2 b3 b4 hB0 hsz hTB ⊢
  simp only [Nat.add_assoc, Nat.reduceAdd] at b0 b1 b2 b3 b4 ⊢
  rw [hB] at hzB
  refine wpIn_rangeFunc_ownH rfl h1 (gf := 92) (lb := #[.pointer (some ⟨B + 3, 0, none⟩)]) rfl trivial (enters_of Try.func92 (by kernel_rfl) rfl)
    (all_stops 4 (by omega) (B + 3) B b c L free n W0 (by omega) (by omega) b3.cell hT0 hTB) belowK_t (belowK_b (by omega)) (Below.refl _ _) (fun _ => rfl)
    (fun pre W => ((Boxed W B 76 (.slice A Z.length cap) ∧ Boxed W (B + 1) 3 (.int .i64 most)) ∧ Boxed W (B + 2) 4 (.bool false) ∧ Boxed W (B + 4) 3 (.int .i64 pre.length)) ∧ (pre.map nd128 = Z.take pre.length ∧ (pre ≠ [] → (pre.length : Int) ≠ most)) ∧ Below B w W)
    (fun cd pre W => ((cd = .ret ∧ ¬ (pre.map nd128 <+: Z)) ∨ (cd = .exit 0 ∧ (pre.length : Int) = most ∧ ((Boxed W B 76 (.slice A Z.length cap) ∧ Boxed W (B + 1) 3 (.int .i64 most)) ∧ Boxed W (B + 2) 4 (.bool false) ∧ Boxed W (B + 4) 3 (.int .i64 pre.length)))) ∧ Below B w W)
    ?hI ?hIx ?h0
    (fun x a' W => ∃ Bx, B + 4 < Bx ∧ W.heap[Bx]? = some (.cells #[.int .i64 x.sp, .int .u64 x.va, .int .i64 x.sz] 27 (0, 0)) ∧ a' = { tmps := #[.pointer (some ⟨b, 0, none⟩), .slice A Z.length cap, .int .i64 most, undef, .pointer (some ⟨B, 0, none⟩), .pointer (some ⟨B + 1, 0, none⟩), .pointer (some ⟨B + 2, 0, none⟩), .func (.func 92) #[] #[.pointer (some ⟨B + 3, 0, none⟩)], .pointer (some ⟨B + 4, 0, none⟩), .pointer (some ⟨Bx, 0, none⟩), .int .i64 x.v, .pointer (some ⟨b, 0, none⟩), .func (.func 92) #[] #[.pointer (some ⟨B + 3, 0, none⟩)], .func (.func 92) #[] #[.pointer (some ⟨B + 3, 0, none⟩)], .bool false, .func (.func 92) #[] #[.pointer (some ⟨B + 3, 0, none⟩)], .agg #[.int .i64 x.sp, .int .u64 x.va, .int .i64 x.sz], .int .i64 x.v, undef, undef, undef, undef, undef, undef, undef, undef, undef, undef, undef, undef, undef, undef, undef, undef, undef, undef, undef, undef, undef, undef, undef, undef, undef, undef, undef, undef, undef, undef, undef, undef, undef, undef, undef, undef, undef], defers := [] })
    ?hAx ?assign ?body ?done ?stop
  case hI => exact OwnFrom.and (Own.from (fun s X Y row hs hg hr => ⟨⟨boxed_own _ _ (fun _ : Unit => _) () X Y row hs.1.1 hg hr, boxed_own _ _ (fun _ : Unit => _) () X Y row hs.1.2 hg hr⟩, boxed_own _ _ (fun _ : Unit => _) () X Y row hs.2.1 hg hr, boxed_own _ _ (fun _ : Unit => _) () X Y row hs.2.2 hg hr⟩) _) (OwnFrom.and (fun _ _ _ _ hs _ _ => hs) (ownFrom_below (by omega) (by omega)))
  case hIx =>
    intro cd
    refine OwnFrom.and (Own.from (fun s X Y row hs hg hr => ?_) _) (ownFrom_below (by omega) (by omega))
    rcases hs with hs | ⟨h1, h2, hs⟩
    · exact .inl hs
    · exact .inr ⟨h1, h2, ⟨boxed_own _ _ (fun _ : Unit => _) () X Y row hs.1.1 hg hr, boxed_own _ _ (fun _ : Unit => _) () X Y row hs.1.2 hg hr⟩, boxed_own _ _ (fun _ : Unit => _) () X Y row hs.2.1 hg hr, boxed_own _ _ (fun _ : Unit => _) () X Y row hs.2.2 hg hr⟩
  case h0 => exact ⟨⟨⟨b0, b1⟩, b2, b4⟩, ⟨by simp, fun h => absurd rfl h⟩, hB0⟩
  case hAx =>
    rintro x a' _ X Y row ⟨Bx, h1, h2, h3⟩ hg hr
    exact ⟨Bx, h1, own27 (β := Unit) Bx .nilFunc _ _ _ () X Y row h2 hg (fun r e => (hr r e).2), h3⟩
  case assign =>
    rintro l pre x W K ⟨⟨⟨c0, c1⟩, c2, c4⟩, hp, hBW⟩ hK
    dsimp only [encN]
    have hsW := hBW.size
    have hl4 := c4.lt
    gi_wp2
    exact hK _ _ ((KeepsOthers.alloc _ _).from _) ((Below.refl _ W).alloc (by omega) _) ⟨⟨⟨c0.alloc _, c1.alloc _⟩, c2.alloc _, c4.alloc _⟩, hp, hBW.alloc (by omega) _⟩ ⟨W.heap.size, hl4, World.alloc_heap_new W _, rfl⟩
  case body =>
    rintro l pre x a' W hl ⟨r, hr⟩ ⟨⟨⟨c0, c1⟩, c2, c4⟩, ⟨hp1, hp2⟩, hBW⟩ ⟨Bx, hBx, cx, rfl⟩ hlt
    dsimp only
    have hlt' : pre.length < Z.length := by rw [HZ.out, List.length_map]; exact hlt
    obtain ⟨p, hp⟩ : ∃ p, p = rd_T128 Z pre.length := ⟨_, rfl⟩
    obtain ⟨ad, eA, s5, s6, s7, s8⟩ := at_T128 (hzB W hBW) pre.length (by omega) (by omega)
    rw [← hp] at s5 s6 s7 s8
    simp only [Int.toNat_natCast] at s5 s6 s7 s8
    have HP := Aside0.mk hp
    clear hp
    subst eA
    have s0 := c4.cell
    have s1 := c0.cell
    have s2 : W.cell? ⟨Bx, 0, none⟩ = some (.int .i64 x.sp) := by rw [Lib.cell_of_heap cx]; rfl
    have s3 : W.cell? ⟨Bx, 1, none⟩ = some (.int .u64 x.va) := by rw [Lib.cell_of_heap cx]; rfl
    have s4 : W.cell? ⟨Bx, 2, none⟩ = some (.int .i64 x.sz) := by rw [Lib.cell_of_heap cx]; rfl
    have hi1 : ((pre.length : Int) ≥ (Z.length : Int)) = False := by simp; omega
    have hi2 : decide ((Z.length : Int) ≤ (pre.length : Int)) = false := by simp; omega
    have hi3 : (0 : Int) ≤ (pre.length : Int) := by omega
    have hi4 : (pre.length : Int) < (Z.length : Int) := by omega
    gi_wp2
    by_cases hk : keq x.sp x.va x.sz p.f0.f0 p.f0.f1 p.f0.f2 = true
    · by_cases hv : x.v = p.f1
      · have hv1 : (x.v == p.f1) = true := by simp [hv]
        refine Code.wpIn_mono (Q := fun e a' w' => match e with | .normal => (∃ (x18 x19 x20 x21 x22 x23 x24 x25 x26 x27 x28 x29 x30 x31 x32 x33 x34 x35 x36 x37 x38 x39 : Value), a' = { tmps := #[.pointer (some ⟨b, 0, none⟩), .slice (some ad) Z.length cap, .int .i64 most, undef, .pointer (some ⟨B, 0, none⟩), .pointer (some ⟨B + 1, 0, none⟩), .pointer (some ⟨B + 2, 0, none⟩), .func (.func 92) #[] #[.pointer (some ⟨B + 3, 0, none⟩)], .pointer (some ⟨B + 4, 0, none⟩), .pointer (some ⟨Bx, 0, none⟩), .int .i64 x.v, .pointer (some ⟨b, 0, none⟩), .func (.func 92) #[] #[.pointer (some ⟨B + 3, 0, none⟩)], .func (.func 92) #[] #[.pointer (some ⟨B + 3, 0, none⟩)], .bool false, .func (.func 92) #[] #[.pointer (some ⟨B + 3, 0, none⟩)], .agg #[.int .i64 x.sp, .int .u64 x.va, .int .i64 x.sz], .int .i64 x.v, x18, x19, x20, x21, x22, x23, x24, x25, x26, x27, x28, x29, x30, x31, x32, x33, x34, x35, x36, x37, x38, x39, .bool false, undef, undef, undef, undef, undef, undef, undef, undef, undef, undef, undef, undef, undef, undef], defers := [] }) ∧ Below W.heap.size W w' | _ => False) ?_ ?_
        rotate_left
        · refine startIn_ wide_round (fun _ => trivial) rfl (by kernel_rfl) (fun _ _ h => h) (n := 23) (S := fun w' => w'.cell? ⟨B + 4, 0, none⟩ = some (.int .i64 pre.length) ∧ w'.cell? ⟨B, 0, none⟩ = some (.slice (some ad) Z.length cap) ∧ w'.cell? ⟨Bx, 0, none⟩ = some (.int .i64 x.sp) ∧ w'.cell? ⟨Bx, 1, none⟩ = some (.int .u64 x.va) ∧ w'.cell? ⟨Bx, 2, none⟩ = some (.int .i64 x.sz) ∧ w'.cell? (ad.add (pre.length * 4)) = some (.int .i64 p.f0.f0) ∧ w'.cell? ⟨(ad.add (pre.length * 4)).block, (ad.add (pre.length * 4)).off + 1, none⟩ = some (.int .u64 p.f0.f1) ∧ w'.cell? ⟨(ad.add (pre.length * 4)).block, (ad.add (pre.length * 4)).off + 2, none⟩ = some (.int .i64 p.f0.f2) ∧ w'.cell? ⟨(ad.add (pre.length * 4)).block, (ad.add (pre.length * 4)).off + 3, none⟩ = some (.int .i64 p.f1)) (ds := []) #[false, false, false, false, false, false, false, false, false, false, false, false, false, false, false, false, false, false, false, false, false, false, false] (by kernel_rfl) rfl rfl ⟨s0, s1, s2, s3, s4, s5, s6, s7, s8⟩ (fun hHeld => ?_)
          refine take_ (i := 0) (N := some 18) (v := ?_) (a' := ?_) #[true, false, false, false, false, false, false, false, false, false, false, false, false, false, false, false, false, false, false, false, false, false, false] rfl rfl (by kernel_rfl) (fun _ _ _ h => h) (Or.inl ⟨by rfl, ?_⟩) hHeld ?_ ?_
          rotate_left
          · rintro w' ⟨s0, s1, s2, s3, s4, s5, s6, s7, s8⟩
            go_simp
            with_reducible rfl
          rotate_left
          · simp only [Act.put, List.setIfInBounds_toArray, List.set_cons_zero, List.set_cons_succ, i64_w, i32_w]
            rfl
          refine take_ (i := 1) (N := some 19) (v := ?_) (a' := ?_) #[true, true, false, false, false, false, false, false, false, false, false, false, false, false, false, false, false, false, false, false, false, false, false] rfl rfl (by kernel_rfl) (fun _ _ _ h => h) (Or.inl ⟨by rfl, ?_⟩) hHeld ?_ ?_
          rotate_left
          · rintro w' ⟨s0, s1, s2, s3, s4, s5, s6, s7, s8⟩
            go_simp
            with_reducible rfl
          rotate_left
          · simp only [Act.put, List.setIfInBounds_toArray, List.set_cons_zero, List.set_cons_succ, i64_w, i32_w]
            rfl
          refine pure_ (i := 2) (N := some 20) (v := ?_) (a' := ?_) #[true, true, true, false, false, false, false, false, false, false, false, false, false, false, false, false, false, false, false, false, false, false, false] rfl rfl (by kernel_rfl) (fun _ _ _ h => h) (Or.inl ⟨by rfl, ?_⟩) ?_ ?_
          rotate_left
          · intro w'
            go_simp
            with_reducible rfl
          rotate_left
          · simp only [Act.put, List.setIfInBounds_toArray, List.set_cons_zero, List.set_cons_succ, i64_w, i32_w]
            rfl
          refine pure_ (i := 3) (N := some 21) (v := ?_) (a' := ?_) #[true, true, true, true, false, false, false, false, false, false, false, false, false, false, false, false, false, false, false, false, false, false, false] rfl rfl (by kernel_rfl) (fun _ _ _ h => h) (Or.inl ⟨by rfl, ?_⟩) ?_ ?_
          rotate_left
          · intro w'
            go_simp
            with_reducible rfl
          rotate_left
          · simp only [Act.put, List.setIfInBounds_toArray, List.set_cons_zero, List.set_cons_succ, i64_w, i32_w]
            rfl
          refine pure_ (i := 4) (N := some 22) (v := ?_) (a' := ?_) #[true, true, true, true, true, false, false, false, false, false, false, false, false, false, false, false, false, false, false, false, false, false, false] rfl rfl (by kernel_rfl) (fun _ _ _ h => h) (Or.inl ⟨by rfl, ?_⟩) ?_ ?_
          rotate_left
          · intro w'
            go_simp
            with_reducible rfl
          rotate_left
          · simp only [Act.put, List.setIfInBounds_toArray, List.set_cons_zero, List.set_cons_succ, i64_w, i32_w]
            rfl
          refine take_ (i := 5) (N := some 23) (v := ?_) (a' := ?_) #[true, true, true, true, true, true, false, false, false, false, false, false, false, false, false, false, false, false, false, false, false, false, false] rfl rfl (by kernel_rfl) (fun _ _ _ h => h) (Or.inl ⟨by rfl, ?_⟩) hHeld ?_ ?_
          rotate_left
          · rintro w' ⟨s0, s1, s2, s3, s4, s5, s6, s7, s8⟩
            go_simp
            with_reducible rfl
          rotate_left
          · simp only [Act.put, List.setIfInBounds_toArray, List.set_cons_zero, List.set_cons_succ, i64_w, i32_w]
            rfl
          refine take_ (i := 6) (N := some 24) (v := ?_) (a' := ?_) #[true, true, true, true, true, true, true, false, false, false, false, false, false, false, false, false, false, false, false, false, false, false, false] rfl rfl (by kernel_rfl) (fun _ _ _ h => h) (Or.inl ⟨by rfl, ?_⟩) hHeld ?_ ?_
          rotate_left
          · rintro w' ⟨s0, s1, s2, s3, s4, s5, s6, s7, s8⟩
            go_simp
            with_reducible rfl
          rotate_left
          · simp only [Act.put, List.setIfInBounds_toArray, List.set_cons_zero, List.set_cons_succ, i64_w, i32_w]
            rfl
          refine take_ (i := 7) (N := some 25) (v := ?_) (a' := ?_) #[true, true, true, true, true, true, true, true, false, false, false, false, false, false, false, false, false, false, false, false, false, false, false] rfl rfl (by kernel_rfl) (fun _ _ _ h => h) (Or.inl ⟨by rfl, ?_⟩) hHeld ?_ ?_
          rotate_left
          · rintro w' ⟨s0, s1, s2, s3, s4, s5, s6, s7, s8⟩
            go_simp
            with_reducible rfl
          rotate_left
          · simp only [Act.put, List.setIfInBounds_toArray, List.set_cons_zero, List.set_cons_succ, i64_w, i32_w]
            rfl
          refine pure_ (i := 8) (N := some 26) (v := ?_) (a' := ?_) #[true, true, true, true, true, true, true, true, true, false, false, false, false, false, false, false, false, false, false, false, false, false, false] rfl rfl (by kernel_rfl) (fun _ _ _ h => h) (Or.inl ⟨by rfl, ?_⟩) ?_ ?_
          rotate_left
          · intro w'
            go_simp
            with_reducible rfl
          rotate_left
          · simp only [Act.put, List.setIfInBounds_toArray, List.set_cons_zero, List.set_cons_succ, i64_w, i32_w]
            rfl
          refine pure_ (i := 9) (N := some 27) (v := ?_) (a' := ?_) #[true, true, true, true, true, true, true, true, true, true, false, false, false, false, false, false, false, false, false, false, false, false, false] rfl rfl (by kernel_rfl) (fun _ _ _ h => h) (Or.inl ⟨by rfl, ?_⟩) ?_ ?_
          rotate_left
          · intro w'
            go_simp
            with_reducible rfl
          rotate_left
          · simp only [Act.put, List.setIfInBounds_toArray, List.set_cons_zero, List.set_cons_succ, i64_w, i32_w]
            rfl
          refine take_ (i := 10) (N := some 28) (v := ?_) (a' := ?_) #[true, true, true, true, true, true, true, true, true, true, true, false, false, false, false, false, false, false, false, false, false, false, false] rfl rfl (by kernel_rfl) (fun _ _ _ h => h) (Or.inl ⟨by rfl, ?_⟩) hHeld ?_ ?_
          rotate_left
          · rintro w' ⟨s0, s1, s2, s3, s4, s5, s6, s7, s8⟩
            go_simp
            with_reducible rfl
          rotate_left
          · simp only [Act.put, List.setIfInBounds_toArray, List.set_cons_zero, List.set_cons_succ, i64_w, i32_w]
            rfl
          refine one_ (i := 11) (N := some 29) #[true, true, true, true, true, true, true, true, true, true, true, true, false, false, false, false, false, false, false, false, false, false, false] rfl rfl (by kernel_rfl) (by decide) (fun K hK => ?_)
          refine goes_ Try.func16 (by kernel_rfl) rfl #[.agg #[.int .i64 p.f0.f0, .int .u64 p.f0.f1, .int .i64 p.f0.f2]] (by rfl) rfl rfl (by (try simp only [List.map_toArray, List.map_cons, List.map_nil]); first | done | rfl) ?_
          refine (lookasidelaw11_key.calls p.f0.f0 p.f0.f1 p.f0.f2 _ _ _ _ rfl).mono ?_
          rintro e w2 ⟨rfl, hb⟩
          refine ⟨_, rfl, ?_⟩
          obtain ⟨s0, s1, s2, s3, s4, s5, s6, s7, s8⟩ := hHeld
          have hb2 := hb
          refine hK.out _ _ ⟨(hb.cell (World.block_lt_of_cell? _ _ s0)).trans s0, (hb.cell (World.block_lt_of_cell? _ _ s1)).trans s1, (hb.cell (World.block_lt_of_cell? _ _ s2)).trans s2, (hb.cell (World.block_lt_of_cell? _ _ s3)).trans s3, (hb.cell (World.block_lt_of_cell? _ _ s4)).trans s4, (hb.cell (World.block_lt_of_cell? _ _ s5)).trans s5, (hb.cell (World.block_lt_of_cell? _ _ s6)).trans s6, (hb.cell (World.block_lt_of_cell? _ _ s7)).trans s7, (hb.cell (World.block_lt_of_cell? _ _ s8)).trans s8⟩ (fun hHeld => ?_)
          clear hK K
          refine norm_ (a' := ?_) ?_ ?_
          rotate_left
          · show Act.put _ (some 29) _ = _
            simp only [Act.put, List.setIfInBounds_toArray, List.set_cons_zero, List.set_cons_succ, i64_w, i32_w]
            rfl
          refine pure_ (i := 12) (N := some 30) (v := ?_) (a' := ?_) #[true, true, true, true, true, true, true, true, true, true, true, true, true, false, false, false, false, false, false, false, false, false, false] rfl rfl (by kernel_rfl) (fun _ _ _ h => h) (Or.inl ⟨by rfl, ?_⟩) ?_ ?_
          rotate_left
          · intro w'
            go_simp
            with_reducible rfl
          rotate_left
          · simp only [Act.put, List.setIfInBounds_toArray, List.set_cons_zero, List.set_cons_succ, i64_w, i32_w]
            rfl
          refine pure_ (i := 13) (N := some 31) (v := ?_) (a' := ?_) #[true, true, true, true, true, true, true, true, true, true, true, true, true, true, false, false, false, false, false, false, false, false, false] rfl rfl (by kernel_rfl) (fun _ _ _ h => h) (Or.inl ⟨by rfl, ?_⟩) ?_ ?_
          rotate_left
          · intro w'
            go_simp
            with_reducible rfl
          rotate_left
          · simp only [Act.put, List.setIfInBounds_toArray, List.set_cons_zero, List.set_cons_succ, i64_w, i32_w]
            rfl
          refine pure_ (i := 14) (N := some 32) (v := ?_) (a' := ?_) #[true, true, true, true, true, true, true, true, true, true, true, true, true, true, true, false, false, false, false, false, false, false, false] rfl rfl (by kernel_rfl) (fun _ _ _ h => h) (Or.inl ⟨by rfl, ?_⟩) ?_ ?_
          rotate_left
          · intro w'
            go_simp
            with_reducible rfl
          rotate_left
          · simp only [Act.put, List.setIfInBounds_toArray, List.set_cons_zero, List.set_cons_succ, i64_w, i32_w]
            rfl
          refine pure_ (i := 15) (N := some 33) (v := ?_) (a' := ?_) #[true, true, true, true, true, true, true, true, true, true, true, true, true, true, true, true, false, false, false, false, false, false, false] rfl rfl (by kernel_rfl) (fun _ _ _ h => h) (Or.inl ⟨by rfl, ?_⟩) ?_ ?_
          rotate_left
          · intro w'
            go_simp
            with_reducible rfl
          rotate_left
          · simp only [Act.put, List.setIfInBounds_toArray, List.set_cons_zero, List.set_cons_succ, i64_w, i32_w]
            rfl
          refine take_ (i := 16) (N := some 34) (v := ?_) (a' := ?_) #[true, true, true, true, true, true, true, true, true, true, true, true, true, true, true, true, true, false, false, false, false, false, false] rfl rfl (by kernel_rfl) (fun _ _ _ h => h) (Or.inl ⟨by rfl, ?_⟩) hHeld ?_ ?_
          rotate_left
          · rintro w' ⟨s0, s1, s2, s3, s4, s5, s6, s7, s8⟩
            go_simp
            with_reducible rfl
          rotate_left
          · simp only [Act.put, List.setIfInBounds_toArray, List.set_cons_zero, List.set_cons_succ, i64_w, i32_w]
            rfl
          refine take_ (i := 17) (N := some 35) (v := ?_) (a' := ?_) #[true, true, true, true, true, true, true, true, true, true, true, true, true, true, true, true, true, true, false, false, false, false, false] rfl rfl (by kernel_rfl) (fun _ _ _ h => h) (Or.inl ⟨by rfl, ?_⟩) hHeld ?_ ?_
          rotate_left
          · rintro w' ⟨s0, s1, s2, s3, s4, s5, s6, s7, s8⟩
            go_simp
            with_reducible rfl
          rotate_left
          · simp only [Act.put, List.setIfInBounds_toArray, List.set_cons_zero, List.set_cons_succ, i64_w, i32_w]
            rfl
          refine pure_ (i := 18) (N := some 36) (v := ?_) (a' := ?_) #[true, true, true, true, true, true, true, true, true, true, true, true, true, true, true, true, true, true, true, false, false, false, false] rfl rfl (by kernel_rfl) (fun _ _ _ h => h) (Or.inl ⟨by rfl, ?_⟩) ?_ ?_
          rotate_left
          · intro w'
            go_simp
            with_reducible rfl
          rotate_left
          · simp only [Act.put, List.setIfInBounds_toArray, List.set_cons_zero, List.set_cons_succ, i64_w, i32_w]
            rfl
          refine pure_ (i := 19) (N := some 37) (v := ?_) (a' := ?_) #[true, true, true, true, true, true, true, true, true, true, true, true, true, true, true, true, true, true, true, true, false, false, false] rfl rfl (by kernel_rfl) (fun _ _ _ h => h) (Or.inl ⟨by rfl, ?_⟩) ?_ ?_
          rotate_left
          · intro w'
            go_simp
            with_reducible rfl
          rotate_left
          · simp only [Act.put, List.setIfInBounds_toArray, List.set_cons_zero, List.set_cons_succ, i64_w, i32_w]
            rfl
          refine take_ (i := 20) (N := some 38) (v := ?_) (a' := ?_) #[true, true, true, true, true, true, true, true, true, true, true, true, true, true, true, true, true, true, true, true, true, false, false] rfl rfl (by kernel_rfl) (fun _ _ _ h => h) (Or.inl ⟨by rfl, ?_⟩) hHeld ?_ ?_
          rotate_left
          · rintro w' ⟨s0, s1, s2, s3, s4, s5, s6, s7, s8⟩
            go_simp
            with_reducible rfl
          rotate_left
          · simp only [Act.put, List.setIfInBounds_toArray, List.set_cons_zero, List.set_cons_succ, i64_w, i32_w]
            rfl
          refine pure_ (i := 21) (N := some 39) (v := ?_) (a' := ?_) #[true, true, true, true, true, true, true, true, true, true, true, true, true, true, true, true, true, true, true, true, true, true, false] rfl rfl (by kernel_rfl) (fun _ _ _ h => h) (Or.inl ⟨by rfl, ?_⟩) ?_ ?_
          rotate_left
          · intro w'
            go_simp
            with_reducible rfl
          rotate_left
          · simp only [Act.put, List.setIfInBounds_toArray, List.set_cons_zero, List.set_cons_succ, i64_w, i32_w]
            rfl
          refine pure_ (i := 22) (N := some 40) (v := ?_) (a' := ?_) #[true, true, true, true, true, true, true, true, true, true, true, true, true, true, true, true, true, true, true, true, true, true, true] rfl rfl (by kernel_rfl) (fun _ _ _ h => h) (Or.inl ⟨by rfl, ?_⟩) ?_ ?_
          rotate_left
          · intro w'
            go_simp
            with_reducible rfl
          rotate_left
          · simp only [Act.put, List.setIfInBounds_toArray, List.set_cons_zero, List.set_cons_succ, i64_w, i32_w]
            rfl
          refine done_ (by kernel_rfl) ?_
          exact ⟨⟨_, _, _, _, _, _, _, _, _, _, _, _, _, _, _, _, _, _, _, _, _, _, rfl⟩, below_step (below_drew (Below.refl _ W)) hb2⟩
        · rintro e a2 w2 hq
          cases e with
          | normal =>
            obtain ⟨⟨x18, x19, x20, x21, x22, x23, x24, x25, x26, x27, x28, x29, x30, x31, x32, x33, x34, x35, x36, x37, x38, x39, rfl⟩, hb2⟩ := hq
            have c0' : Boxed w2 B 76 _ := (hb2.block _ c0.lt).trans c0
            have c1' : Boxed w2 (B + 1) 3 _ := (hb2.block _ c1.lt).trans c1
            have c2' : Boxed w2 (B + 2) 4 _ := (hb2.block _ c2.lt).trans c2
            have c4' : Boxed w2 (B + 4) 3 _ := (hb2.block _ c4.lt).trans c4
            have hKF : KeepsFrom W0.heap.size W w2 := ⟨hb2.size, fun k o _ hk _ => (hb2.block k (Array.getElem?_eq_some_iff.1 hk).1).trans hk⟩
            have hBB : Below B W w2 := hb2.mono (by have := hBW.size; omega)
            have hb3 : Below B w w2 := hBW.trans hBB
            clear s0 s1 s2 s3 s4 s5 s6 s7 s8
            have d0 := c0'.cell
            have d1 := c1'.cell
            have d2 := c2'.cell
            have d4 := c4'.cell
            have e2 := c2'.frozen
            have e4 := c4'.frozen
            have hw1 : IntKind.i64.wrap ((pre.length : Int) + 1) = pre.length + 1 := wrap_i64_small (by omega) (by omega)
            have hpx : (pre ++ [x]).map nd128 = Z.take (pre ++ [x]).length := by
              have hx : rd_T128 Z pre.length = nd128 x := by
                rw [← HP.out]
                simp only [keq, Bool.and_eq_true, beq_iff_eq] at hk
                obtain ⟨k1, k2, k3⟩ := hk
                obtain ⟨⟨q0, q1, q2⟩, q3⟩ := p
                simp only at k1 k2 k3 hv
                subst k1 k2 k3 hv
                rfl
              rw [List.map_append, hp1, List.length_append, List.length_singleton, List.take_succ_eq_append_getElem hlt', List.map_singleton, ← hx]
              simp [rd_T128, List.getD_eq_getElem?_getD, List.getElem?_eq_getElem hlt']
            have HPX := Aside0.mk hpx
            have HP1 := Aside0.mk hp1
            clear hpx hp1
            have c5 : Boxed (w2.setCell ⟨B + 4, 0, none⟩ (.int .i64 (pre.length + 1))) (B + 4) 3 (.int .i64 ((pre ++ [x]).length : Nat)) := by
              have := c4'.set (.int .i64 (pre.length + 1))
              simpa using this
            by_cases hm : (pre.length : Int) + 1 = most
            · have hm1 : ((pre.length : Int) + 1 == most) = true := by simp [hm]
              have HM := Aside0.mk hm
              clear hm
              gi_wp2
              refine ⟨hKF.trans ((KeepsOthers.setCell _ _ _).from _), .inr ⟨rfl, by simp; exact HM.out, ⟨c0'.other (by omega) _, c1'.other (by omega) _⟩, c2'.other (by omega) _, c5⟩, hb3.setCell (p := ⟨B + 4, 0, none⟩) (by simp) _⟩
            · have hm1 : ((pre.length : Int) + 1 == most) = false := by simp [hm]
              have HM := Aside0.mk hm
              clear hm
              gi_wp2
              exact ⟨hKF.trans ((KeepsOthers.setCell _ _ _).from _), hBB.setCell (p := ⟨B + 4, 0, none⟩) (by simp) _, ⟨⟨c0'.other (by omega) _, c1'.other (by omega) _⟩, c2'.other (by omega) _, c5⟩, ⟨HPX.out, fun _ h => HM.out (by simpa using h)⟩, hb3.setCell (p := ⟨B + 4, 0, none⟩) (by simp) _⟩
          | _ => exact hq.elim
      · have hv1 : (x.v != p.f1) = true := by simp [hv]
        refine Code.wpIn_mono (Q := fun e a' w' => match e with | .normal => (∃ (x18 x19 x20 x21 x22 x23 x24 x25 x26 x27 x28 x29 x30 x31 x32 x33 x34 x35 x36 x37 x38 x39 : Value), a' = { tmps := #[.pointer (some ⟨b, 0, none⟩), .slice (some ad) Z.length cap, .int .i64 most, undef, .pointer (some ⟨B, 0, none⟩), .pointer (some ⟨B + 1, 0, none⟩), .pointer (some ⟨B + 2, 0, none⟩), .func (.func 92) #[] #[.pointer (some ⟨B + 3, 0, none⟩)], .pointer (some ⟨B + 4, 0, none⟩), .pointer (some ⟨Bx, 0, none⟩), .int .i64 x.v, .pointer (some ⟨b, 0, none⟩), .func (.func 92) #[] #[.pointer (some ⟨B + 3, 0, none⟩)], .func (.func 92) #[] #[.pointer (some ⟨B + 3, 0, none⟩)], .bool false, .func (.func 92) #[] #[.pointer (some ⟨B + 3, 0, none⟩)], .agg #[.int .i64 x.sp, .int .u64 x.va, .int .i64 x.sz], .int .i64 x.v, x18, x19, x20, x21, x22, x23, x24, x25, x26, x27, x28, x29, x30, x31, x32, x33, x34, x35, x36, x37, x38, x39, .bool true, undef, undef, undef, undef, undef, undef, undef, undef, undef, undef, undef, undef, undef, undef], defers := [] }) ∧ Below W.heap.size W w' | _ => False) ?_ ?_
        rotate_left
        · refine startIn_ wide_round (fun _ => trivial) rfl (by kernel_rfl) (fun _ _ h => h) (n := 23) (S := fun w' => w'.cell? ⟨B + 4, 0, none⟩ = some (.int .i64 pre.length) ∧ w'.cell? ⟨B, 0, none⟩ = some (.slice (some ad) Z.length cap) ∧ w'.cell? ⟨Bx, 0, none⟩ = some (.int .i64 x.sp) ∧ w'.cell? ⟨Bx, 1, none⟩ = some (.int .u64 x.va) ∧ w'.cell? ⟨Bx, 2, none⟩ = some (.int .i64 x.sz) ∧ w'.cell? (ad.add (pre.length * 4)) = some (.int .i64 p.f0.f0) ∧ w'.cell? ⟨(ad.add (pre.length * 4)).block, (ad.add (pre.length * 4)).off + 1, none⟩ = some (.int .u64 p.f0.f1) ∧ w'.cell? ⟨(ad.add (pre.length * 4)).block, (ad.add (pre.length * 4)).off + 2, none⟩ = some (.int .i64 p.f0.f2) ∧ w'.cell? ⟨(ad.add (pre.length * 4)).block, (ad.add (pre.length * 4)).off + 3, none⟩ = some (.int .i64 p.f1)) (ds := []) #[false, false, false, false, false, false, false, false, false, false, false, false, false, false, false, false, false, false, false, false, false, false, false] (by kernel_rfl) rfl rfl ⟨s0, s1, s2, s3, s4, s5, s6, s7, s8⟩ (fun hHeld => ?_)
          refine take_ (i := 0) (N := some 18) (v := ?_) (a' := ?_) #[true, false, false, false, false, false, false, false, false, false, false, false, false, false, false, false, false, false, false, false, false, false, false] rfl rfl (by kernel_rfl) (fun _ _ _ h => h) (Or.inl ⟨by rfl, ?_⟩) hHeld ?_ ?_
          rotate_left
          · rintro w' ⟨s0, s1, s2, s3, s4, s5, s6, s7, s8⟩
            go_simp
            with_reducible rfl
          rotate_left
          · simp only [Act.put, List.setIfInBounds_toArray, List.set_cons_zero, List.set_cons_succ, i64_w, i32_w]
            rfl
          refine take_ (i := 1) (N := some 19) (v := ?_) (a' := ?_) #[true, true, false, false, false, false, false, false, false, false, false, false, false, false, false, false, false, false, false, false, false, false, false] rfl rfl (by kernel_rfl) (fun _ _ _ h => h) (Or.inl ⟨by rfl, ?_⟩) hHeld ?_ ?_
          rotate_left
          · rintro w' ⟨s0, s1, s2, s3, s4, s5, s6, s7, s8⟩
            go_simp
            with_reducible rfl
          rotate_left
          · simp only [Act.put, List.setIfInBounds_toArray, List.set_cons_zero, List.set_cons_succ, i64_w, i32_w]
            rfl
          refine pure_ (i := 2) (N := some 20) (v := ?_) (a' := ?_) #[true, true, true, false, false, false, false, false, false, false, false, false, false, false, false, false, false, false, false, false, false, false, false] rfl rfl (by kernel_rfl) (fun _ _ _ h => h) (Or.inl ⟨by rfl, ?_⟩) ?_ ?_
          rotate_left
          · intro w'
            go_simp
            with_reducible rfl
          rotate_left
          · simp only [Act.put, List.setIfInBounds_toArray, List.set_cons_zero, List.set_cons_succ, i64_w, i32_w]
            rfl
          refine pure_ (i := 3) (N := some 21) (v := ?_) (a' := ?_) #[true, true, true, true, false, false, false, false, false, false, false, false, false, false, false, false, false, false, false, false, false, false, false] rfl rfl (by kernel_rfl) (fun _ _ _ h => h) (Or.inl ⟨by rfl, ?_⟩) ?_ ?_
          rotate_left
          · intro w'
            go_simp
            with_reducible rfl
          rotate_left
          · simp only [Act.put, List.setIfInBounds_toArray, List.set_cons_zero, List.set_cons_succ, i64_w, i32_w]
            rfl
          refine pure_ (i := 4) (N := some 22) (v := ?_) (a' := ?_) #[true, true, true, true, true, false, false, false, false, false, false, false, false, false, false, false, false, false, false, false, false, false, false] rfl rfl (by kernel_rfl) (fun _ _ _ h => h) (Or.inl ⟨by rfl, ?_⟩) ?_ ?_
          rotate_left
          · intro w'
            go_simp
            with_reducible rfl
          rotate_left
          · simp only [Act.put, List.setIfInBounds_toArray, List.set_cons_zero, List.set_cons_succ, i64_w, i32_w]
            rfl
          refine take_ (i := 5) (N := some 23) (v := ?_) (a' := ?_) #[true, true, true, true, true, true, false, false, false, false, false, false, false, false, false, false, false, false, false, false, false, false, false] rfl rfl (by kernel_rfl) (fun _ _ _ h => h) (Or.inl ⟨by rfl, ?_⟩) hHeld ?_ ?_
          rotate_left
          · rintro w' ⟨s0, s1, s2, s3, s4, s5, s6, s7, s8⟩
            go_simp
            with_reducible rfl
          rotate_left
          · simp only [Act.put, List.setIfInBounds_toArray, List.set_cons_zero, List.set_cons_succ, i64_w, i32_w]
            rfl
          refine take_ (i := 6) (N := some 24) (v := ?_) (a' := ?_) #[true, true, true, true, true, true, true, false, false, false, false, false, false, false, false, false, false, false, false, false, false, false, false] rfl rfl (by kernel_rfl) (fun _ _ _ h => h) (Or.inl ⟨by rfl, ?_⟩) hHeld ?_ ?_
          rotate_left
          · rintro w' ⟨s0, s1, s2, s3, s4, s5, s6, s7, s8⟩
            go_simp
            with_reducible rfl
          rotate_left
          · simp only [Act.put, List.setIfInBounds_toArray, List.set_cons_zero, List.set_cons_succ, i64_w, i32_w]
            rfl
          refine take_ (i := 7) (N := some 25) (v := ?_) (a' := ?_) #[true, true, true, true, true, true, true, true, false, false, false, false, false, false, false, false, false, false, false, false, false, false, false] rfl rfl (by kernel_rfl) (fun _ _ _ h => h) (Or.inl ⟨by rfl, ?_⟩) hHeld ?_ ?_
          rotate_left
          · rintro w' ⟨s0, s1, s2, s3, s4, s5, s6, s7, s8⟩
            go_simp
            with_reducible rfl
          rotate_left
          · simp only [Act.put, List.setIfInBounds_toArray, List.set_cons_zero, List.set_cons_succ, i64_w, i32_w]
            rfl
          refine pure_ (i := 8) (N := some 26) (v := ?_) (a' := ?_) #[true, true, true, true, true, true, true, true, true, false, false, false, false, false, false, false, false, false, false, false, false, false, false] rfl rfl (by kernel_rfl) (fun _ _ _ h => h) (Or.inl ⟨by rfl, ?_⟩) ?_ ?_
          rotate_left
          · intro w'
            go_simp
            with_reducible rfl
          rotate_left
          · simp only [Act.put, List.setIfInBounds_toArray, List.set_cons_zero, List.set_cons_succ, i64_w, i32_w]
            rfl
          refine pure_ (i := 9) (N := some 27) (v := ?_) (a' := ?_) #[true, true, true, true, true, true, true, true, true, true, false, false, false, false, false, false, false, false, false, false, false, false, false] rfl rfl (by kernel_rfl) (fun _ _ _ h => h) (Or.inl ⟨by rfl, ?_⟩) ?_ ?_
          rotate_left
          · intro w'
            go_simp
            with_reducible rfl
          rotate_left
          · simp only [Act.put, List.setIfInBounds_toArray, List.set_cons_zero, List.set_cons_succ, i64_w, i32_w]
            rfl
          refine take_ (i := 10) (N := some 28) (v := ?_) (a' := ?_) #[true, true, true, true, true, true, true, true, true, true, true, false, false, false, false, false, false, false, false, false, false, false, false] rfl rfl (by kernel_rfl) (fun _ _ _ h => h) (Or.inl ⟨by rfl, ?_⟩) hHeld ?_ ?_
          rotate_left
          · rintro w' ⟨s0, s1, s2, s3, s4, s5, s6, s7, s8⟩
            go_simp
            with_reducible rfl
          rotate_left
          · simp only [Act.put, List.setIfInBounds_toArray, List.set_cons_zero, List.set_cons_succ, i64_w, i32_w]
            rfl
          refine one_ (i := 11) (N := some 29) #[true, true, true, true, true, true, true, true, true, true, true, true, false, false, false, false, false, false, false, false, false, false, false] rfl rfl (by kernel_rfl) (by decide) (fun K hK => ?_)
          refine goes_ Try.func16 (by kernel_rfl) rfl #[.agg #[.int .i64 p.f0.f0, .int .u64 p.f0.f1, .int .i64 p.f0.f2]] (by rfl) rfl rfl (by (try simp only [List.map_toArray, List.map_cons, List.map_nil]); first | done | rfl) ?_
          refine (lookasidelaw11_key.calls p.f0.f0 p.f0.f1 p.f0.f2 _ _ _ _ rfl).mono ?_
          rintro e w2 ⟨rfl, hb⟩
          refine ⟨_, rfl, ?_⟩
          obtain ⟨s0, s1, s2, s3, s4, s5, s6, s7, s8⟩ := hHeld
          have hb2 := hb
          refine hK.out _ _ ⟨(hb.cell (World.block_lt_of_cell? _ _ s0)).trans s0, (hb.cell (World.block_lt_of_cell? _ _ s1)).trans s1, (hb.cell (World.block_lt_of_cell? _ _ s2)).trans s2, (hb.cell (World.block_lt_of_cell? _ _ s3)).trans s3, (hb.cell (World.block_lt_of_cell? _ _ s4)).trans s4, (hb.cell (World.block_lt_of_cell? _ _ s5)).trans s5, (hb.cell (World.block_lt_of_cell? _ _ s6)).trans s6, (hb.cell (World.block_lt_of_cell? _ _ s7)).trans s7, (hb.cell (World.block_lt_of_cell? _ _ s8)).trans s8⟩ (fun hHeld => ?_)
          clear hK K
          refine norm_ (a' := ?_) ?_ ?_
          rotate_left
          · show Act.put _ (some 29) _ = _
            simp only [Act.put, List.setIfInBounds_toArray, List.set_cons_zero, List.set_cons_succ, i64_w, i32_w]
            rfl
          refine pure_ (i := 12) (N := some 30) (v := ?_) (a' := ?_) #[true, true, true, true, true, true, true, true, true, true, true, true, true, false, false, false, false, false, false, false, false, false, false] rfl rfl (by kernel_rfl) (fun _ _ _ h => h) (Or.inl ⟨by rfl, ?_⟩) ?_ ?_
          rotate_left
          · intro w'
            go_simp
            with_reducible rfl
          rotate_left
          · simp only [Act.put, List.setIfInBounds_toArray, List.set_cons_zero, List.set_cons_succ, i64_w, i32_w]
            rfl
          refine pure_ (i := 13) (N := some 31) (v := ?_) (a' := ?_) #[true, true, true, true, true, true, true, true, true, true, true, true, true, true, false, false, false, false, false, false, false, false, false] rfl rfl (by kernel_rfl) (fun _ _ _ h => h) (Or.inl ⟨by rfl, ?_⟩) ?_ ?_
          rotate_left
          · intro w'
            go_simp
            with_reducible rfl
          rotate_left
          · simp only [Act.put, List.setIfInBounds_toArray, List.set_cons_zero, List.set_cons_succ, i64_w, i32_w]
            rfl
          refine pure_ (i := 14) (N := some 32) (v := ?_) (a' := ?_) #[true, true, true, true, true, true, true, true, true, true, true, true, true, true, true, false, false, false, false, false, false, false, false] rfl rfl (by kernel_rfl) (fun _ _ _ h => h) (Or.inl ⟨by rfl, ?_⟩) ?_ ?_
          rotate_left
          · intro w'
            go_simp
            with_reducible rfl
          rotate_left
          · simp only [Act.put, List.setIfInBounds_toArray, List.set_cons_zero, List.set_cons_succ, i64_w, i32_w]
            rfl
          refine pure_ (i := 15) (N := some 33) (v := ?_) (a' := ?_) #[true, true, true, true, true, true, true, true, true, true, true, true, true, true, true, true, false, false, false, false, false, false, false] rfl rfl (by kernel_rfl) (fun _ _ _ h => h) (Or.inl ⟨by rfl, ?_⟩) ?_ ?_
          rotate_left
          · intro w'
            go_simp
            with_reducible rfl
          rotate_left
          · simp only [Act.put, List.setIfInBounds_toArray, List.set_cons_zero, List.set_cons_succ, i64_w, i32_w]
            rfl
          refine take_ (i := 16) (N := some 34) (v := ?_) (a' := ?_) #[true, true, true, true, true, true, true, true, true, true, true, true, true, true, true, true, true, false, false, false, false, false, false] rfl rfl (by kernel_rfl) (fun _ _ _ h => h) (Or.inl ⟨by rfl, ?_⟩) hHeld ?_ ?_
          rotate_left
          · rintro w' ⟨s0, s1, s2, s3, s4, s5, s6, s7, s8⟩
            go_simp
            with_reducible rfl
          rotate_left
          · simp only [Act.put, List.setIfInBounds_toArray, List.set_cons_zero, List.set_cons_succ, i64_w, i32_w]
            rfl
          refine take_ (i := 17) (N := some 35) (v := ?_) (a' := ?_) #[true, true, true, true, true, true, true, true, true, true, true, true, true, true, true, true, true, true, false, false, false, false, false] rfl rfl (by kernel_rfl) (fun _ _ _ h => h) (Or.inl ⟨by rfl, ?_⟩) hHeld ?_ ?_
          rotate_left
          · rintro w' ⟨s0, s1, s2, s3, s4, s5, s6, s7, s8⟩
            go_simp
            with_reducible rfl
          rotate_left
          · simp only [Act.put, List.setIfInBounds_toArray, List.set_cons_zero, List.set_cons_succ, i64_w, i32_w]
            rfl
          refine pure_ (i := 18) (N := some 36) (v := ?_) (a' := ?_) #[true, true, true, true, true, true, true, true, true, true, true, true, true, true, true, true, true, true, true, false, false, false, false] rfl rfl (by kernel_rfl) (fun _ _ _ h => h) (Or.inl ⟨by rfl, ?_⟩) ?_ ?_
          rotate_left
          · intro w'
            go_simp
            with_reducible rfl
          rotate_left
          · simp only [Act.put, List.setIfInBounds_toArray, List.set_cons_zero, List.set_cons_succ, i64_w, i32_w]
            rfl
          refine pure_ (i := 19) (N := some 37) (v := ?_) (a' := ?_) #[true, true, true, true, true, true, true, true, true, true, true, true, true, true, true, true, true, true, true, true, false, false, false] rfl rfl (by kernel_rfl) (fun _ _ _ h => h) (Or.inl ⟨by rfl, ?_⟩) ?_ ?_
          rotate_left
          · intro w'
            go_simp
            with_reducible rfl
          rotate_left
          · simp only [Act.put, List.setIfInBounds_toArray, List.set_cons_zero, List.set_cons_succ, i64_w, i32_w]
            rfl
          refine take_ (i := 20) (N := some 38) (v := ?_) (a' := ?_) #[true, true, true, true, true, true, true, true, true, true, true, true, true, true, true, true, true, true, true, true, true, false, false] rfl rfl (by kernel_rfl) (fun _ _ _ h => h) (Or.inl ⟨by rfl, ?_⟩) hHeld ?_ ?_
          rotate_left
          · rintro w' ⟨s0, s1, s2, s3, s4, s5, s6, s7, s8⟩
            go_simp
            with_reducible rfl
          rotate_left
          · simp only [Act.put, List.setIfInBounds_toArray, List.set_cons_zero, List.set_cons_succ, i64_w, i32_w]
            rfl
          refine pure_ (i := 21) (N := some 39) (v := ?_) (a' := ?_) #[true, true, true, true, true, true, true, true, true, true, true, true, true, true, true, true, true, true, true, true, true, true, false] rfl rfl (by kernel_rfl) (fun _ _ _ h => h) (Or.inl ⟨by rfl, ?_⟩) ?_ ?_
          rotate_left
          · intro w'
            go_simp
            with_reducible rfl
          rotate_left
          · simp only [Act.put, List.setIfInBounds_toArray, List.set_cons_zero, List.set_cons_succ, i64_w, i32_w]
            rfl
          refine pure_ (i := 22) (N := some 40) (v := ?_) (a' := ?_) #[true, true, true, true, true, true, true, true, true, true, true, true, true, true, true, true, true, true, true, true, true, true, true] rfl rfl (by kernel_rfl) (fun _ _ _ h => h) (Or.inl ⟨by rfl, ?_⟩) ?_ ?_
          rotate_left
          · intro w'
            go_simp
            with_reducible rfl
          rotate_left
          · simp only [Act.put, List.setIfInBounds_toArray, List.set_cons_zero, List.set_cons_succ, i64_w, i32_w]
            rfl
          refine done_ (by kernel_rfl) ?_
          exact ⟨⟨_, _, _, _, _, _, _, _, _, _, _, _, _, _, _, _, _, _, _, _, _, _, rfl⟩, below_step (below_drew (Below.refl _ W)) hb2⟩
        · rintro e a2 w2 hq
          cases e with
          | normal =>
            obtain ⟨⟨x18, x19, x20, x21, x22, x23, x24, x25, x26, x27, x28, x29, x30, x31, x32, x33, x34, x35, x36, x37, x38, x39, rfl⟩, hb2⟩ := hq
            have c0' : Boxed w2 B 76 _ := (hb2.block _ c0.lt).trans c0
            have c1' : Boxed w2 (B + 1) 3 _ := (hb2.block _ c1.lt).trans c1
            have c2' : Boxed w2 (B + 2) 4 _ := (hb2.block _ c2.lt).trans c2
            have c4' : Boxed w2 (B + 4) 3 _ := (hb2.block _ c4.lt).trans c4
            have hKF : KeepsFrom W0.heap.size W w2 := ⟨hb2.size, fun k o _ hk _ => (hb2.block k (Array.getElem?_eq_some_iff.1 hk).1).trans hk⟩
            have hBB : Below B W w2 := hb2.mono (by have := hBW.size; omega)
            have hb3 : Below B w w2 := hBW.trans hBB
            clear s0 s1 s2 s3 s4 s5 s6 s7 s8
            have d0 := c0'.cell
            have d1 := c1'.cell
            have d2 := c2'.cell
            have d4 := c4'.cell
            have e2 := c2'.frozen
            have e4 := c4'.frozen
            gi_wp2
            refine ⟨hKF.trans ((KeepsOthers.setCell _ _ _).from _), .inl ⟨rfl, fun hpre => ?_⟩, hb3.setCell (p := ⟨B + 2, 0, none⟩) (by simp) _⟩
            have hpx := pre_next hpre
            rw [← HP.out] at hpx
            subst hpx
            simp [nd128, keq] at hk hv
          | _ => exact hq.elim
    · replace hk : keq x.sp x.va x.sz p.f0.f0 p.f0.f1 p.f0.f2 = false := by simpa using hk
      refine Code.wpIn_mono (Q := fun e a' w' => match e with | .normal => (∃ (x18 x19 x20 x21 x22 x23 x24 x25 x26 x27 x28 x29 x30 x31 x32 x33 x34 x35 x36 x37 x38 x39 : Value), a' = { tmps := #[.pointer (some ⟨b, 0, none⟩), .slice (some ad) Z.length cap, .int .i64 most, undef, .pointer (some ⟨B, 0, none⟩), .pointer (some ⟨B + 1, 0, none⟩), .pointer (some ⟨B + 2, 0, none⟩), .func (.func 92) #[] #[.pointer (some ⟨B + 3, 0, none⟩)], .pointer (some ⟨B + 4, 0, none⟩), .pointer (some ⟨Bx, 0, none⟩), .int .i64 x.v, .pointer (some ⟨b, 0, none⟩), .func (.func 92) #[] #[.pointer (some ⟨B + 3, 0, none⟩)], .func (.func 92) #[] #[.pointer (some ⟨B + 3, 0, none⟩)], .bool false, .func (.func 92) #[] #[.pointer (some ⟨B + 3, 0, none⟩)], .agg #[.int .i64 x.sp, .int .u64 x.va, .int .i64 x.sz], .int .i64 x.v, x18, x19, x20, x21, x22, x23, x24, x25, x26, x27, x28, x29, x30, x31, x32, x33, x34, x35, x36, x37, x38, x39, .bool true, undef, undef, undef, undef, undef, undef, undef, undef, undef, undef, undef, undef, undef, undef], defers := [] }) ∧ Below W.heap.size W w' | _ => False) ?_ ?_
      rotate_left
      · refine startIn_ wide_round (fun _ => trivial) rfl (by kernel_rfl) (fun _ _ h => h) (n := 23) (S := fun w' => w'.cell? ⟨B + 4, 0, none⟩ = some (.int .i64 pre.length) ∧ w'.cell? ⟨B, 0, none⟩ = some (.slice (some ad) Z.length cap) ∧ w'.cell? ⟨Bx, 0, none⟩ = some (.int .i64 x.sp) ∧ w'.cell? ⟨Bx, 1, none⟩ = some (.int .u64 x.va) ∧ w'.cell? ⟨Bx, 2, none⟩ = some (.int .i64 x.sz) ∧ w'.cell? (ad.add (pre.length * 4)) = some (.int .i64 p.f0.f0) ∧ w'.cell? ⟨(ad.add (pre.length * 4)).block, (ad.add (pre.length * 4)).off + 1, none⟩ = some (.int .u64 p.f0.f1) ∧ w'.cell? ⟨(ad.add (pre.length * 4)).block, (ad.add (pre.length * 4)).off + 2, none⟩ = some (.int .i64 p.f0.f2) ∧ w'.cell? ⟨(ad.add (pre.length * 4)).block, (ad.add (pre.length * 4)).off + 3, none⟩ = some (.int .i64 p.f1)) (ds := []) #[false, false, false, false, false, false, false, false, false, false, false, false, false, false, false, false, false, false, false, false, false, false, false] (by kernel_rfl) rfl rfl ⟨s0, s1, s2, s3, s4, s5, s6, s7, s8⟩ (fun hHeld => ?_)
        refine take_ (i := 0) (N := some 18) (v := ?_) (a' := ?_) #[true, false, false, false, false, false, false, false, false, false, false, false, false, false, false, false, false, false, false, false, false, false, false] rfl rfl (by kernel_rfl) (fun _ _ _ h => h) (Or.inl ⟨by rfl, ?_⟩) hHeld ?_ ?_
        rotate_left
        · rintro w' ⟨s0, s1, s2, s3, s4, s5, s6, s7, s8⟩
          go_simp
          with_reducible rfl
        rotate_left
        · simp only [Act.put, List.setIfInBounds_toArray, List.set_cons_zero, List.set_cons_succ, i64_w, i32_w]
          rfl
        refine take_ (i := 1) (N := some 19) (v := ?_) (a' := ?_) #[true, true, false, false, false, false, false, false, false, false, false, false, false, false, false, false, false, false, false, false, false, false, false] rfl rfl (by kernel_rfl) (fun _ _ _ h => h) (Or.inl ⟨by rfl, ?_⟩) hHeld ?_ ?_
        rotate_left
        · rintro w' ⟨s0, s1, s2, s3, s4, s5, s6, s7, s8⟩
          go_simp
          with_reducible rfl
        rotate_left
        · simp only [Act.put, List.setIfInBounds_toArray, List.set_cons_zero, List.set_cons_succ, i64_w, i32_w]
          rfl
        refine pure_ (i := 2) (N := some 20) (v := ?_) (a' := ?_) #[true, true, true, false, false, false, false, false, false, false, false, false, false, false, false, false, false, false, false, false, false, false, false] rfl rfl (by kernel_rfl) (fun _ _ _ h => h) (Or.inl ⟨by rfl, ?_⟩) ?_ ?_
        rotate_left
        · intro w'
          go_simp
          with_reducible rfl
        rotate_left
        · simp only [Act.put, List.setIfInBounds_toArray, List.set_cons_zero, List.set_cons_succ, i64_w, i32_w]
          rfl
        refine pure_ (i := 3) (N := some 21) (v := ?_) (a' := ?_) #[true, true, true, true, false, false, false, false, false, false, false, false, false, false, false, false, false, false, false, false, false, false, false] rfl rfl (by kernel_rfl) (fun _ _ _ h => h) (Or.inl ⟨by rfl, ?_⟩) ?_ ?_
        rotate_left
        · intro w'
          go_simp
          with_reducible rfl
        rotate_left
        · simp only [Act.put, List.setIfInBounds_toArray, List.set_cons_zero, List.set_cons_succ, i64_w, i32_w]
          rfl
        refine pure_ (i := 4) (N := some 22) (v := ?_) (a' := ?_) #[true, true, true, true, true, false, false, false, false, false, false, false, false, false, false, false, false, false, false, false, false, false, false] rfl rfl (by kernel_rfl) (fun _ _ _ h => h) (Or.inl ⟨by rfl, ?_⟩) ?_ ?_
        rotate_left
        · intro w'
          go_simp
          with_reducible rfl
        rotate_left
        · simp only [Act.put, List.setIfInBounds_toArray, List.set_cons_zero, List.set_cons_succ, i64_w, i32_w]
          rfl
        refine take_ (i := 5) (N := some 23) (v := ?_) (a' := ?_) #[true, true, true, true, true, true, false, false, false, false, false, false, false, false, false, false, false, false, false, false, false, false, false] rfl rfl (by kernel_rfl) (fun _ _ _ h => h) (Or.inl ⟨by rfl, ?_⟩) hHeld ?_ ?_
        rotate_left
        · rintro w' ⟨s0, s1, s2, s3, s4, s5, s6, s7, s8⟩
          go_simp
          with_reducible rfl
        rotate_left
        · simp only [Act.put, List.setIfInBounds_toArray, List.set_cons_zero, List.set_cons_succ, i64_w, i32_w]
          rfl
        refine take_ (i := 6) (N := some 24) (v := ?_) (a' := ?_) #[true, true, true, true, true, true, true, false, false, false, false, false, false, false, false, false, false, false, false, false, false, false, false] rfl rfl (by kernel_rfl) (fun _ _ _ h => h) (Or.inl ⟨by rfl, ?_⟩) hHeld ?_ ?_
        rotate_left
        · rintro w' ⟨s0, s1, s2, s3, s4, s5, s6, s7, s8⟩
          go_simp
          with_reducible rfl
        rotate_left
        · simp only [Act.put, List.setIfInBounds_toArray, List.set_cons_zero, List.set_cons_succ, i64_w, i32_w]
          rfl
        refine take_ (i := 7) (N := some 25) (v := ?_) (a' := ?_) #[true, true, true, true, true, true, true, true, false, false, false, false, false, false, false, false, false, false, false, false, false, false, false] rfl rfl (by kernel_rfl) (fun _ _ _ h => h) (Or.inl ⟨by rfl, ?_⟩) hHeld ?_ ?_
        rotate_left
        · rintro w' ⟨s0, s1, s2, s3, s4, s5, s6, s7, s8⟩
          go_simp
          with_reducible rfl
        rotate_left
        · simp only [Act.put, List.setIfInBounds_toArray, List.set_cons_zero, List.set_cons_succ, i64_w, i32_w]
          rfl
        refine pure_ (i := 8) (N := some 26) (v := ?_) (a' := ?_) #[true, true, true, true, true, true, true, true, true, false, false, false, false, false, false, false, false, false, false, false, false, false, false] rfl rfl (by kernel_rfl) (fun _ _ _ h => h) (Or.inl ⟨by rfl, ?_⟩) ?_ ?_
        rotate_left
        · intro w'
          go_simp
          with_reducible rfl
        rotate_left
        · simp only [Act.put, List.setIfInBounds_toArray, List.set_cons_zero, List.set_cons_succ, i64_w, i32_w]
          rfl
        refine pure_ (i := 9) (N := some 27) (v := ?_) (a' := ?_) #[true, true, true, true, true, true, true, true, true, true, false, false, false, false, false, false, false, false, false, false, false, false, false] rfl rfl (by kernel_rfl) (fun _ _ _ h => h) (Or.inl ⟨by rfl, ?_⟩) ?_ ?_
        rotate_left
        · intro w'
          go_simp
          with_reducible rfl
        rotate_left
        · simp only [Act.put, List.setIfInBounds_toArray, List.set_cons_zero, List.set_cons_succ, i64_w, i32_w]
          rfl
        refine take_ (i := 10) (N := some 28) (v := ?_) (a' := ?_) #[true, true, true, true, true, true, true, true, true, true, true, false, false, false, false, false, false, false, false, false, false, false, false] rfl rfl (by kernel_rfl) (fun _ _ _ h => h) (Or.inl ⟨by rfl, ?_⟩) hHeld ?_ ?_
        rotate_left
        · rintro w' ⟨s0, s1, s2, s3, s4, s5, s6, s7, s8⟩
          go_simp
          with_reducible rfl
        rotate_left
        · simp only [Act.put, List.setIfInBounds_toArray, List.set_cons_zero, List.set_cons_succ, i64_w, i32_w]
          rfl
        refine one_ (i := 11) (N := some 29) #[true, true, true, true, true, true, true, true, true, true, true, true, false, false, false, false, false, false, false, false, false, false, false] rfl rfl (by kernel_rfl) (by decide) (fun K hK => ?_)
        refine goes_ Try.func16 (by kernel_rfl) rfl #[.agg #[.int .i64 p.f0.f0, .int .u64 p.f0.f1, .int .i64 p.f0.f2]] (by rfl) rfl rfl (by (try simp only [List.map_toArray, List.map_cons, List.map_nil]); first | done | rfl) ?_
        refine (lookasidelaw11_key.calls p.f0.f0 p.f0.f1 p.f0.f2 _ _ _ _ rfl).mono ?_
        rintro e w2 ⟨rfl, hb⟩
        refine ⟨_, rfl, ?_⟩
        obtain ⟨s0, s1, s2, s3, s4, s5, s6, s7, s8⟩ := hHeld
        have hb2 := hb
        refine hK.out _ _ ⟨(hb.cell (World.block_lt_of_cell? _ _ s0)).trans s0, (hb.cell (World.block_lt_of_cell? _ _ s1)).trans s1, (hb.cell (World.block_lt_of_cell? _ _ s2)).trans s2, (hb.cell (World.block_lt_of_cell? _ _ s3)).trans s3, (hb.cell (World.block_lt_of_cell? _ _ s4)).trans s4, (hb.cell (World.block_lt_of_cell? _ _ s5)).trans s5, (hb.cell (World.block_lt_of_cell? _ _ s6)).trans s6, (hb.cell (World.block_lt_of_cell? _ _ s7)).trans s7, (hb.cell (World.block_lt_of_cell? _ _ s8)).trans s8⟩ (fun hHeld => ?_)
        clear hK K
        refine norm_ (a' := ?_) ?_ ?_
        rotate_left
        · show Act.put _ (some 29) _ = _
          simp only [Act.put, List.setIfInBounds_toArray, List.set_cons_zero, List.set_cons_succ, i64_w, i32_w]
          rfl
        refine pure_ (i := 12) (N := some 30) (v := ?_) (a' := ?_) #[true, true, true, true, true, true, true, true, true, true, true, true, true, false, false, false, false, false, false, false, false, false, false] rfl rfl (by kernel_rfl) (fun _ _ _ h => h) (Or.inl ⟨by rfl, ?_⟩) ?_ ?_
        rotate_left
        · intro w'
          go_simp
          with_reducible rfl
        rotate_left
        · simp only [Act.put, List.setIfInBounds_toArray, List.set_cons_zero, List.set_cons_succ, i64_w, i32_w]
          rfl
        refine pure_ (i := 13) (N := some 31) (v := ?_) (a' := ?_) #[true, true, true, true, true, true, true, true, true, true, true, true, true, true, false, false, false, false, false, false, false, false, false] rfl rfl (by kernel_rfl) (fun _ _ _ h => h) (Or.inl ⟨by rfl, ?_⟩) ?_ ?_
        rotate_left
        · intro w'
          go_simp
          with_reducible rfl
        rotate_left
        · simp only [Act.put, List.setIfInBounds_toArray, List.set_cons_zero, List.set_cons_succ, i64_w, i32_w]
          rfl
        refine pure_ (i := 14) (N := some 32) (v := ?_) (a' := ?_) #[true, true, true, true, true, true, true, true, true, true, true, true, true, true, true, false, false, false, false, false, false, false, false] rfl rfl (by kernel_rfl) (fun _ _ _ h => h) (Or.inl ⟨by rfl, ?_⟩) ?_ ?_
        rotate_left
        · intro w'
          go_simp
          with_reducible rfl
        rotate_left
        · simp only [Act.put, List.setIfInBounds_toArray, List.set_cons_zero, List.set_cons_succ, i64_w, i32_w]
          rfl
        refine pure_ (i := 15) (N := some 33) (v := undef) (a' := ?_) #[true, true, true, true, true, true, true, true, true, true, true, true, true, true, true, true, false, false, false, false, false, false, false] rfl rfl (by kernel_rfl) (fun _ _ _ h => h) (Or.inr ⟨by rfl, rfl⟩) ?_ ?_
        rotate_left
        · simp only [Act.put, List.setIfInBounds_toArray, List.set_cons_zero, List.set_cons_succ, i64_w, i32_w]
          rfl
        refine pure_ (i := 16) (N := some 34) (v := undef) (a' := ?_) #[true, true, true, true, true, true, true, true, true, true, true, true, true, true, true, true, true, false, false, false, false, false, false] rfl rfl (by kernel_rfl) (fun _ _ _ h => h) (Or.inr ⟨by rfl, rfl⟩) ?_ ?_
        rotate_left
        · simp only [Act.put, List.setIfInBounds_toArray, List.set_cons_zero, List.set_cons_succ, i64_w, i32_w]
          rfl
        refine pure_ (i := 17) (N := some 35) (v := undef) (a' := ?_) #[true, true, true, true, true, true, true, true, true, true, true, true, true, true, true, true, true, true, false, false, false, false, false] rfl rfl (by kernel_rfl) (fun _ _ _ h => h) (Or.inr ⟨by rfl, rfl⟩) ?_ ?_
        rotate_left
        · simp only [Act.put, List.setIfInBounds_toArray, List.set_cons_zero, List.set_cons_succ, i64_w, i32_w]
          rfl
        refine pure_ (i := 18) (N := some 36) (v := undef) (a' := ?_) #[true, true, true, true, true, true, true, true, true, true, true, true, true, true, true, true, true, true, true, false, false, false, false] rfl rfl (by kernel_rfl) (fun _ _ _ h => h) (Or.inr ⟨by rfl, rfl⟩) ?_ ?_
        rotate_left
        · simp only [Act.put, List.setIfInBounds_toArray, List.set_cons_zero, List.set_cons_succ, i64_w, i32_w]
          rfl
        refine pure_ (i := 19) (N := some 37) (v := undef) (a' := ?_) #[true, true, true, true, true, true, true, true, true, true, true, true, true, true, true, true, true, true, true, true, false, false, false] rfl rfl (by kernel_rfl) (fun _ _ _ h => h) (Or.inr ⟨by rfl, rfl⟩) ?_ ?_
        rotate_left
        · simp only [Act.put, List.setIfInBounds_toArray, List.set_cons_zero, List.set_cons_succ, i64_w, i32_w]
          rfl
        refine pure_ (i := 20) (N := some 38) (v := undef) (a' := ?_) #[true, true, true, true, true, true, true, true, true, true, true, true, true, true, true, true, true, true, true, true, true, false, false] rfl rfl (by kernel_rfl) (fun _ _ _ h => h) (Or.inr ⟨by rfl, rfl⟩) ?_ ?_
        rotate_left
        · simp only [Act.put, List.setIfInBounds_toArray, List.set_cons_zero, List.set_cons_succ, i64_w, i32_w]
          rfl
        refine pure_ (i := 21) (N := some 39) (v := undef) (a' := ?_) #[true, true, true, true, true, true, true, true, true, true, true, true, true, true, true, true, true, true, true, true, true, true, false] rfl rfl (by kernel_rfl) (fun _ _ _ h => h) (Or.inr ⟨by rfl, rfl⟩) ?_ ?_
        rotate_left
        · simp only [Act.put, List.setIfInBounds_toArray, List.set_cons_zero, List.set_cons_succ, i64_w, i32_w]
          rfl
        refine pure_ (i := 22) (N := some 40) (v := ?_) (a' := ?_) #[true, true, true, true, true, true, true, true, true, true, true, true, true, true, true, true, true, true, true, true, true, true, true] rfl rfl (by kernel_rfl) (fun _ _ _ h => h) (Or.inl ⟨by rfl, ?_⟩) ?_ ?_
        rotate_left
        · intro w'
          go_simp
          with_reducible rfl
        rotate_left
        · simp only [Act.put, List.setIfInBounds_toArray, List.set_cons_zero, List.set_cons_succ, i64_w, i32_w]
          rfl
        refine done_ (by kernel_rfl) ?_
        exact ⟨⟨_, _, _, _, _, _, _, _, _, _, _, _, _, _, _, _, _, _, _, _, _, _, rfl⟩, below_step (below_drew (Below.refl _ W)) hb2⟩
      · rintro e a2 w2 hq
        cases e with
        | normal =>
          obtain ⟨⟨x18, x19, x20, x21, x22, x23, x24, x25, x26, x27, x28, x29, x30, x31, x32, x33, x34, x35, x36, x37, x38, x39, rfl⟩, hb2⟩ := hq
          have c0' : Boxed w2 B 76 _ := (hb2.block _ c0.lt).trans c0
          have c1' : Boxed w2 (B + 1) 3 _ := (hb2.block _ c1.lt).trans c1
          have c2' : Boxed w2 (B + 2) 4 _ := (hb2.block _ c2.lt).trans c2
          have c4' : Boxed w2 (B + 4) 3 _ := (hb2.block _ c4.lt).trans c4
          have hKF : KeepsFrom W0.heap.size W w2 := ⟨hb2.size, fun k o _ hk _ => (hb2.block k (Array.getElem?_eq_some_iff.1 hk).1).trans hk⟩
          have hBB : Below B W w2 := hb2.mono (by have := hBW.size; omega)
          have hb3 : Below B w w2 := hBW.trans hBB
          clear s0 s1 s2 s3 s4 s5 s6 s7 s8
          have d0 := c0'.cell
          have d1 := c1'.cell
          have d2 := c2'.cell
          have d4 := c4'.cell
          have e2 := c2'.frozen
          have e4 := c4'.frozen
          gi_wp2
          refine ⟨hKF.trans ((KeepsOthers.setCell _ _ _).from _), .inl ⟨rfl, fun hpre => ?_⟩, hb3.setCell (p := ⟨B + 2, 0, none⟩) (by simp) _⟩
          have hpx := pre_next hpre
          rw [← HP.out] at hpx
          subst hpx
          simp [nd128, keq] at hk
        | _ => exact hq.elim
  case done =>
    rintro D xs W hD hxs ⟨⟨⟨c0, c1⟩, c2, c4⟩, ⟨hp1, hp2⟩, hBW⟩ hK
    rw [show xs.length = Z.length from by rw [HZ.out, hxs, List.length_map]] at c4
    clear hp1 hp2 hxs
    have d0 := c0.cell
    have d1 := c1.cell
    have d2 := c2.cell
    have d4 := c4.cell
    have e2 := c2.frozen
    gi_wp2
    have hK' := (KeepsOthers.setCell W ⟨B + 2, 0, none⟩ (.bool true)).same D _ hK rfl
    refine ⟨by simp, .inl ⟨_, _, rfl, run_takeDeferred hK', ?_⟩⟩
    have hc5 := cell_kept (World.cell?_setCell_same' W ⟨B + 2, 0, none⟩ (.bool true) (by rw [d2]; rfl)) (grownBy_putObj' _ D (.deferred none)) (fun r e => by cases e; exact ⟨_, hK', rfl⟩)
    refine ⟨.bool true, ?_, rfl, ?_⟩
    · simp [results, Try.f41, go_sem, hc5]
    · rw [hB]
      exact (hBW.setCell (p := ⟨B + 2, 0, none⟩) (by simp) _).trans (belowK_b (w := w) (by omega) _ D _ _ (by omega) hK' rfl rfl)
  case stop =>
    rintro D cd pre W hD hpre ⟨⟨rfl, hno⟩ | ⟨rfl, hm, ⟨c0, c1⟩, c2, c4⟩, hBW⟩ hK
    · exact absurd (by rw [HZ.out]; obtain ⟨s, hs⟩ := hpre; exact ⟨s.map nd128, by rw [← List.map_append, hs]⟩) hno
    · have d0 := c0.cell
      have d1 := c1.cell
      have d2 := c2.cell
      have d4 := c4.cell
      have e2 := c2.frozen
      gi_wp2
      all_goals
        have hK' := (KeepsOthers.setCell W ⟨B + 2, 0, none⟩ (.bool true)).same D _ hK rfl
        refine ⟨by simp, .inl ⟨_, _, rfl, run_takeDeferred hK', ?_⟩⟩
        have hc5 := cell_kept (World.cell?_setCell_same' W ⟨B + 2, 0, none⟩ (.bool true) (by rw [d2]; rfl)) (grownBy_putObj' _ D (.deferred none)) (fun r e => by cases e; exact ⟨_, hK', rfl⟩)
        refine ⟨.bool true, ?_, rfl, ?_⟩
        · simp [results, Try.f41, go_sem, hc5]
        · rw [hB]
          exact (hBW.setCell (p := ⟨B + 2, 0, none⟩) (by simp) _).trans (belowK_b (w := w) (by omega) _ D _ _ (by omega) hK' rfl rfl)
end Go.Proofs.Ytgmdlndiilibpaa.PH


/- What the reference answers, of a table whose chains are L: plain laws. -/
set_option linter.unusedVariables false
set_option linter.unusedSimpArgs false
namespace Go.Proofs.Ytgmdlndiilibpaa.PH
open Go.RowKit Go.Proofs.YtgmdlndiilibpaaW.PrintWords Go.Proofs.YtgmdlndiilibpaaW.PrintLast Go.Proofs.YtgmdlndiilibpaaW.PrintMore Go.Proofs.Ytgmdlndiilibpaa.Tab Go.Proofs.Ytgmdlndiilibpaa.KeyG
/-- A table's chains, as the document has them. -/
def img (L : List (List Nd)) : List (List S128) := L.map (List.map nd128)
theorem img_len (L : List (List Nd)) : (img L).length = L.length := List.length_map _
theorem rd_img {L : List (List Nd)} {i : Nat} {l : List Nd} (h : L[i]? = some l) : rd_L4 (img L) i = l.map nd128 := by
  simp [rd_L4, img, List.getD_eq_getElem?_getD, List.getElem?_map, h]
theorem img_set (L : List (List Nd)) (i : Nat) (l : List Nd) : (img L).set i (l.map nd128) = img (L.set i l) := by
  simp [img, List.map_set]
theorem at_l0 (a b c : Int) (l : List Nd) (hs : l.length ≤ 1000000000000) : ∀ (k j : Nat), j ≤ l.length → l.length < j + k → (∀ q (hq : q < l.length), q < j → (l[q]'hq).key ≠ (a, b, c)) →
    lookasideref11_at.l0 k (l.map nd128) j a b c = some (if pos (a, b, c) l < l.length then (pos (a, b, c) l : Int) else -1)
  | 0, j, h1, h2, _ => by omega
  | k + 1, j, h1, h2, hno => by
    unfold lookasideref11_at.l0
    rw [List.length_map]
    by_cases hj : j < l.length
    · rw [if_pos (by omega), if_pos (by omega)]
      have hr : rd_T128 (l.map nd128) j = nd128 l[j] := by simp [rd_T128, List.getD_eq_getElem?_getD, List.getElem?_map, List.getElem?_eq_getElem hj]
      rw [hr]
      by_cases he : l[j].key = (a, b, c)
      · have hp := pos_at hj hno he
        rw [hp, if_pos hj]
        simp only [Nd.key, Prod.mk.injEq] at he
        obtain ⟨e1, e2, e3⟩ := he
        rw [if_pos (by simp [nd128, e1, e2, e3])]
      · rw [if_neg (by
          simp only [nd128, Bool.and_eq_true, beq_iff_eq]
          rintro ⟨e1, e2, e3⟩
          exact he (by simp [Nd.key, e1, e2, e3])), wi _ (by omega) (by omega)]
        exact at_l0 a b c l hs k (j + 1) (by omega) (by omega) (fun q hq hqj => by
          rcases Nat.lt_or_ge q j with h | h
          · exact hno q hq h
          · obtain rfl : q = j := by omega
            exact he)
    · rw [if_neg (by omega)]
      have hp : pos (a, b, c) l = l.length := pos_none (fun q hq => hno q hq (by omega))
      rw [hp, if_neg (Nat.lt_irrefl _)]
theorem at_f (a b c : Int) (l : List Nd) (hs : l.length ≤ 1000000000000) (k : Nat) (hk : l.length < k) :
    lookasideref11_at.f k (l.map nd128) a b c = some (if pos (a, b, c) l < l.length then (pos (a, b, c) l : Int) else -1) :=
  at_l0 a b c l hs k 0 (Nat.zero_le _) (by omega) (fun q _ h => by omega)
theorem flat_len_drop {L : List (List Nd)} {j : Nat} (hj : j < L.length) : (L.drop j).flatten.length = L[j].length + (L.drop (j + 1)).flatten.length := by
  rw [List.drop_eq_getElem_cons hj, List.flatten_cons, List.length_append]
theorem len_l0 (bl : Int) (L : List (List Nd)) (hs : L.flatten.length ≤ 1000000000000) (hL : L.length ≤ 10000000) : ∀ (k j : Nat) (x : Nat), j ≤ L.length → L.length < j + k → x + (L.drop j).flatten.length ≤ 1000000000000 →
    lookasideref11_Len.l0 k x j bl (img L) = some ((x + (L.drop j).flatten.length : Nat) : Int)
  | 0, j, x, h1, h2, _ => by omega
  | k + 1, j, x, h1, h2, h3 => by
    unfold lookasideref11_Len.l0
    rw [img_len]
    by_cases hj : j < L.length
    · rw [if_pos (by omega), if_pos (by omega), rd_img (List.getElem?_eq_getElem hj), List.length_map]
      have hd := flat_len_drop hj
      rw [wi _ (by omega) (by omega), wi _ (by omega) (by omega)]
      have := len_l0 bl L hs hL k (j + 1) (x + L[j].length) (by omega) (by omega) (by omega)
      rw [show ((x : Int) + (L[j].length : Int)) = ((x + L[j].length : Nat) : Int) from by omega, show ((j : Int) + 1) = ((j + 1 : Nat) : Int) from by omega, this]
      congr 2
      omega
    · rw [if_neg (by omega), List.drop_of_length_le (by omega)]
      simp
theorem len_f (bl : Int) (L : List (List Nd)) (hs : L.flatten.length ≤ 1000000000000) (hL : L.length ≤ 10000000) (k : Nat) (hk : L.length < k) :
    lookasideref11_Len.f k bl (img L) = some ((L.flatten.length : Nat) : Int) := by
  have := len_l0 bl L hs hL k 0 0 (Nat.zero_le _) (by omega) (by simpa using hs)
  unfold lookasideref11_Len.f
  simpa using this
theorem all_l0 (bl : Int) (L : List (List Nd)) (hs : L.flatten.length ≤ 1000000000000) (hL : L.length ≤ 10000000) : ∀ (k j : Nat), j ≤ L.length → L.length < j + k →
    lookasideref11_All.l0 k ((L.take j).flatten.map nd128) j bl (img L) = some (L.flatten.map nd128)
  | 0, j, h1, h2 => by omega
  | k + 1, j, h1, h2 => by
    unfold lookasideref11_All.l0
    rw [img_len]
    by_cases hj : j < L.length
    · have hg : L[j]? = some L[j] := List.getElem?_eq_getElem hj
      have hsp := flat_split hg
      have hlen : ((L.take j).flatten.length) + L[j].length ≤ L.flatten.length := by
        rw [hsp]; simp only [List.length_append]; omega
      rw [if_pos (by omega), if_pos (by omega), rd_img hg, List.length_map, List.length_map, if_pos (by omega), ← List.map_append, ← flat_take hg, wi _ (by omega) (by omega)]
      exact all_l0 bl L hs hL k (j + 1) (by omega) (by omega)
    · rw [if_neg (by omega), List.take_of_length_le (by omega)]
theorem all_f (bl : Int) (L : List (List Nd)) (hs : L.flatten.length ≤ 1000000000000) (hL : L.length ≤ 10000000) (k : Nat) (hk : L.length < k) :
    lookasideref11_All.f k bl (img L) = some (L.flatten.map nd128) := by
  have := all_l0 bl L hs hL k 0 (Nat.zero_le _) (by omega)
  unfold lookasideref11_All.f
  simpa using this
theorem Gk.rmay {x : S24} (h : Gk x) : lookasideref11_May.f x.f0 x.f1 x.f2 = some true := by
  obtain ⟨g, v, z, rfl, h1, h2, h3, h4⟩ := h
  rw [may_r g v z h2, h4]
theorem Gk.rch {x : S24} (h : Gk x) {N : Nat} (h0 : 0 < N) (hN : N ≤ 10000000) : lookasideref11_Chain.f x.f0 x.f1 x.f2 N = some ((cN x N : Nat) : Int) := by
  obtain ⟨g, v, z, rfl, h1, h2, h3, h4⟩ := h
  exact ch_r g v z N h1 h2 h3 h0 hN
theorem push_f (bl : Int) (L : List (List Nd)) (hL : L.length ≤ 10000000) (y : S24) (v : Int) {c : Nat} {l : List Nd} (hch : lookasideref11_Chain.f y.f0 y.f1 y.f2 (L.length : Int) = some (c : Int)) (hl : L[c]? = some l) (hls : l.length ≤ 1000000000000) (g : Nat) :
    lookasideref11_push.f bl (img L) y.f0 y.f1 y.f2 v = some (bl, img (L.set c (⟨g, y.f0, y.f1, y.f2, v⟩ :: l))) := by
  have hc : c < L.length := (List.getElem?_eq_some_iff.1 hl).1
  unfold lookasideref11_push.f
  rw [img_len, hch]
  simp only [Option.bind_some]
  rw [rd_img hl, if_pos (by omega), if_pos (by omega), if_pos (by simp; omega)]
  unfold lookasideref11_with.f
  rw [img_len, if_pos (by simp; omega)]
  simp only [Option.bind_some, List.nil_append]
  rw [img_len, if_pos (by omega), if_pos (by omega)]
  simp only [Option.bind_some, Int.toNat_natCast]
  rw [← img_set]
  rfl
/-- Put, of a key that may be: it is there. -/
theorem put_f_exist (bl : Int) (L : List (List Nd)) (hL : L.length ≤ 10000000) (y : S24) (v : Int) {c : Nat} {l : List Nd} (hmay : lookasideref11_May.f y.f0 y.f1 y.f2 = some true) (hch : lookasideref11_Chain.f y.f0 y.f1 y.f2 (L.length : Int) = some (c : Int)) (hl : L[c]? = some l)
    (hls : l.length ≤ 1000000000000) (k : Nat) (hk : l.length < k) (hlt : pos (y.f0, y.f1, y.f2) l < l.length) :
    lookasideref11_Put.f k bl (img L) y.f0 y.f1 y.f2 v = some (bl, img L, 9) := by
  have hc : c < L.length := (List.getElem?_eq_some_iff.1 hl).1
  unfold lookasideref11_Put.f
  rw [hmay]
  simp only [Option.bind_some, if_true]
  rw [img_len, hch]
  simp only [Option.bind_some]
  rw [if_pos (by omega), if_pos (by omega), rd_img hl, at_f _ _ _ l hls k hk, if_pos hlt]
  simp only [Option.bind_some]
  rw [if_pos (by omega)]
/-- .. there is no room. -/
theorem put_f_mem (bl : Int) (L : List (List Nd)) (hL : L.length ≤ 10000000) (y : S24) (v : Int) {c : Nat} {l : List Nd} (hmay : lookasideref11_May.f y.f0 y.f1 y.f2 = some true) (hch : lookasideref11_Chain.f y.f0 y.f1 y.f2 (L.length : Int) = some (c : Int)) (hl : L[c]? = some l)
    (hls : L.flatten.length ≤ 1000000000000) (k : Nat) (hk : L.flatten.length < k) (hkL : L.length < k) (hlt : ¬ pos (y.f0, y.f1, y.f2) l < l.length) (hfull : bl ≤ (L.flatten.length : Int)) :
    lookasideref11_Put.f k bl (img L) y.f0 y.f1 y.f2 v = some (bl, img L, 6) := by
  have hc : c < L.length := (List.getElem?_eq_some_iff.1 hl).1
  have hll : l.length ≤ L.flatten.length := by rw [flat_split hl]; simp only [List.length_append]; omega
  unfold lookasideref11_Put.f
  rw [hmay]
  simp only [Option.bind_some, if_true]
  rw [img_len, hch]
  simp only [Option.bind_some]
  rw [if_pos (by omega), if_pos (by omega), rd_img hl, at_f _ _ _ l (by omega) k (by omega), if_neg hlt]
  simp only [Option.bind_some]
  rw [if_neg (by omega), len_f bl L hls hL k hkL]
  simp only [Option.bind_some]
  rw [if_pos (by omega)]
/-- .. it is put. -/
theorem put_f_ok (bl : Int) (L : List (List Nd)) (hL : L.length ≤ 10000000) (y : S24) (v : Int) {c : Nat} {l : List Nd} (hmay : lookasideref11_May.f y.f0 y.f1 y.f2 = some true) (hch : lookasideref11_Chain.f y.f0 y.f1 y.f2 (L.length : Int) = some (c : Int)) (hl : L[c]? = some l)
    (hls : L.flatten.length ≤ 1000000000000) (k : Nat) (hk : L.flatten.length < k) (hkL : L.length < k) (hlt : ¬ pos (y.f0, y.f1, y.f2) l < l.length) (hfull : (L.flatten.length : Int) < bl) (g : Nat) :
    lookasideref11_Put.f k bl (img L) y.f0 y.f1 y.f2 v = some (bl, img (L.set c (⟨g, y.f0, y.f1, y.f2, v⟩ :: l)), 0) := by
  have hc : c < L.length := (List.getElem?_eq_some_iff.1 hl).1
  have hll : l.length ≤ L.flatten.length := by rw [flat_split hl]; simp only [List.length_append]; omega
  unfold lookasideref11_Put.f
  rw [hmay]
  simp only [Option.bind_some, if_true]
  rw [img_len, hch]
  simp only [Option.bind_some]
  rw [if_pos (by omega), if_pos (by omega), rd_img hl, at_f _ _ _ l (by omega) k (by omega), if_neg hlt]
  simp only [Option.bind_some]
  rw [if_neg (by omega), len_f bl L hls hL k hkL]
  simp only [Option.bind_some]
  rw [if_neg (by omega), push_f bl L hL y v hch hl (by omega) g]
  rfl
theorem flat_len_set {L : List (List Nd)} {c : Nat} {l l' : List Nd} (hl : L[c]? = some l) : (L.set c l').flatten.length + l.length = L.flatten.length + l'.length := by
  have hc : c < L.length := (List.getElem?_eq_some_iff.1 hl).1
  have h2 : (L.set c l')[c]? = some l' := List.getElem?_set_self hc
  have e1 := congrArg List.length (flat_split hl)
  have e2 := congrArg List.length (flat_split h2)
  have t1 : (L.set c l').take c = L.take c := by rw [List.take_set, List.set_eq_of_length_le (by simp; omega)]
  have t2 : (L.set c l').drop (c + 1) = L.drop (c + 1) := by rw [List.drop_set, if_pos (by omega)]
  rw [t1, t2] at e2
  simp only [List.length_append] at e1 e2
  omega
end Go.Proofs.Ytgmdlndiilibpaa.PH

