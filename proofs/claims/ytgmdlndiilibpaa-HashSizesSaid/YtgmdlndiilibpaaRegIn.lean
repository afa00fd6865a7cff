/- A region that draws its order, INSIDE a wide fence (in a round of a loop over a function too): by the same steps as everywhere (start_, pure_, take_, one_, done_). -/
import Derived.RangeFuncCalls
import Derived.OwnWalkIn
import Derived.Test.YtgmdlndiilibpaaWLast
namespace Go.Proofs.Ytgmdlndiilibpaa.PH
open Go.Proofs.YtgmdlndiilibpaaW.PrintLast
section
variable {F : Fence} {P : Program} {ops : Array Oper} {Q : Exit → Act → World → Prop} {S : World → Prop} {ds : List Nat}
def isDefer : Op → Bool
  | .defer _ => true
  | _ => false
theorem rows_in (hfe : ∀ m : Machine, m.fenced P F ↔ m.fenced P Fence.wide) {n : Nat} {row : String} {args : Array Value} {w : World} {R : Value → World → Prop} (h : Rows P row args w R) : RowsIn F n P row args w R := fun c cs _ => by
  obtain ⟨v, w', hr, hs⟩ := h c cs
  refine ⟨v, w', hr, ?_⟩
  have : Machine.fenced P F = Machine.fenced P Fence.wide := funext fun m => propext (hfe m)
  rw [this]
  exact stepsIn_wide.2 hs
theorem calls_in (hfe : ∀ m : Machine, m.fenced P F ↔ m.fenced P Fence.wide) (hfn : ∀ f, F.fn f) {n : Nat} {f : FuncId} {args : Array Value} {w : World} {R : Ending → World → Prop} (h : Calls P f args w R) : CallsIn F n P f args w R := by
  refine ⟨hfn f, fun cs _ => ?_⟩
  obtain ⟨e, w', fr, r, s, x⟩ := h cs
  have : Machine.fenced P F = Machine.fenced P Fence.wide := funext fun m => propext (hfe m)
  rw [this]
  exact ⟨e, w', fr, r, comesIn_wide.2 s, x⟩
theorem opsIn_of (hfe : ∀ m : Machine, m.fenced P F ↔ m.fenced P Fence.wide) (hfn : ∀ f, F.fn f) (hdp : F.depth = none) (hno : (ops.all fun o => !isDefer o.op) = true) (hQ : ∀ a w, ¬ Q .outgrown a w) (n : Nat) :
    ∀ (l : List Nat) (a : Act) (w : World), wpOps P ops Q l a w → wpOpsIn F n P ops Q l a w := by
  intro l
  induction l with
  | nil => intro a w h; exact h
  | cons i rest ih =>
    intro a w h
    unfold wpOps at h
    unfold wpOpsIn
    cases ho : ops[i]? with
    | none => simp only [ho] at h ⊢; exact ih a w h
    | some o =>
      simp only [ho] at h ⊢
      split
      · rename_i hw
        simp only [hw, if_true] at h
        rcases h with h | ⟨_, a0, w0, h0⟩
        · refine ⟨fun f _ => hfn f, ?_⟩
          have hnd : ∀ c, o.op ≠ .defer c := fun c e => by
            have h1 := Array.all_eq_true.1 hno i (Array.getElem?_eq_some_iff.1 ho).1
            rw [(Array.getElem?_eq_some_iff.1 ho).2, e] at h1
            simp [isDefer] at h1
          rw [Oper.semAt_eq F.round a.eval o hnd]
          unfold Oper.wp at h
          generalize (execOp a.eval o).run P w = r at h ⊢
          cases r with
          | ok x w' =>
            cases x with
            | value v => exact ih _ _ h
            | skip => exact ih _ _ h
            | defer d => exact ih _ _ h
            | enter f args =>
              refine ⟨fun hd => (by rw [hdp] at hd; cases hd), calls_in hfe hfn (Calls.mono h ?_)⟩
              intro e w'' he
              cases e with
              | returned v => exact ih _ _ he
              | panicked c => exact he
              | outgrown => exact he
            | row row args =>
              exact ⟨fun hd => (by rw [hdp] at hd; cases hd), rows_in hfe (Rows.mono h fun v w'' he => ih _ _ he)⟩
            | _ => exact (h : False).elim
          | halt x w' =>
            cases x with
            | panic v => exact h
            | _ => exact (h : False).elim
        · exact (hQ a0 w0 h0).elim
      · rename_i hw
        simp only [hw] at h
        exact ⟨fun f _ => hfn f, ih _ _ h⟩
/-- start_ INSIDE A WIDE FENCE. -/
theorem startIn_ (hfe : ∀ m : Machine, m.fenced P F ↔ m.fenced P Fence.wide) (hfn : ∀ f, F.fn f) (hdp : F.depth = none) (hno : (ops.all fun o => !isDefer o.op) = true) (hQ : ∀ a w, ¬ Q .outgrown a w)
    {id n n' : Nat} {a : Act} {w : World} (l : Array Bool) (hm : P.follows .mixedOrders = true) (hn : ops.size = n) (hl : Array.replicate n false = l) (hS : S w.drew)
    (h : S w.drew → wpAnyLast P .any ops Q S ds n l a w.drew) : (Code.region id ops true).wpIn F n' P Q a w := by
  subst hn
  subst hl
  refine wpIn_region_draw fun t => ?_
  simp only [Region.schedule, hm, Bool.true_or, if_true]
  exact opsIn_of hfe hfn hdp hno hQ n' _ _ _ (wpAny_sound _ _ _ _ _ (wpAny_of_last _ _ _ _ (h hS)))
end
theorem wide_round {P : Program} {l : Nat} : ∀ m : Machine, m.fenced P (Fence.wide.inRound l) ↔ m.fenced P Fence.wide := fun _ => Iff.rfl
end Go.Proofs.Ytgmdlndiilibpaa.PH
