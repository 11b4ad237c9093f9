/- A range over the iterator: one law for the caller; no condition. -/
import Derived.Test.YthnbleblmpnfhaaFolA
import Derived.RangeFuncBox
set_option linter.unusedVariables false
set_option linter.unusedSimpArgs false
namespace Go.Proofs.YthnbleblmpnfhaaFn
open Go Go.RowKit Go.Shelf Go.Proofs.YthnbleblmpnfhaaPx

theorem Keep.putObj {K : Nat → Prop} {w : World} {r : Nat} {o : Obj} (h : ¬ K r) : Keep K w (w.putObj r o) :=
  ⟨rfl, rfl, rfl, by simp, fun k hK _ => World.putObj_heap_other (fun e => h (e ▸ hK))⟩

/-- How a round's body is left. -/
def bodyP (Kb : Nat → Prop) (I : List Int → World → Prop) (Ix : Int → World → Prop) (out : List Int) (ref e : Int) (W : World) : Exit → Act → World → Prop
  | .normal, _, W' => e = 0 ∧ I (out ++ [ref]) W' ∧ Keep Kb W W'
  | .ret, _, W' => e ≠ 0 ∧ Ix e W' ∧ Keep Kb W W'
  | _, _, _ => False

theorem range_law {F : Fence} {n : Nat} {P : Program} {g : Operand} {ps : Array Tmp} {assign body : Code} {Q : Exit → Act → World → Prop} {a : Act} {w : World}
    (hro : F.round = none) (h1 : 1 ≤ n) {gf : Nat} {lb : Array Value} (hg : a.eval g = .func (.func gf) #[] lb) (hFg : F.fn gf) (eg : ∀ args w, (callFunc gf args).run P w = .ok (.enter gf args) w)
    (Kb Ki : Nat → Prop) (hKi : ∀ k, Ki k → k ≠ w.heap.size + 1 ∧ Kb k) (hKb : Kb w.heap.size ∧ Kb (w.heap.size + 1)) (hps : ps.size = 2)
    (I : List Int → World → Prop) (Ix : Int → World → Prop)
    (hI : ∀ out W W', I out W → Keep (fun k => k ≠ w.heap.size ∧ k ≠ w.heap.size + 1 ∧ k ≠ w.heap.size + 2) W W' → I out W')
    (hIx : ∀ e W W', Ix e W → Keep (fun k => k ≠ w.heap.size ∧ k ≠ w.heap.size + 1 ∧ k ≠ w.heap.size + 2) W W' → Ix e W')
    (h0 : I [] w) (a₁ : Int → Int → Act)
    (hassign : ∀ (ref e : Int) (W : World) (K : Act → World → Prop), K (a₁ ref e) W →
      assign.wpIn (F.inRound (w.heap.size + 1)) (n - 1 - 1) P (Exit.then K (fun _ _ _ => False)) { tmps := (ps.zip #[.int .i64 ref, .int .i64 e]).foldl (fun t (p, v) => t.setIfInBounds p v) a.tmps, defers := [] } W)
    (hbody : ∀ (out : List Int) (ref e : Int) (W : World), I out W → w.heap.size + 2 < W.heap.size → (e = 0 → out.length + 1 ≤ 1000000) → body.wpIn (F.inRound (w.heap.size + 1)) (n - 1 - 1) P (bodyP Kb I Ix out ref e W) (a₁ ref e) W)
    (r : List Int × Int)
    (hit : ∀ (J : List Int → World → Prop) (Jx : Int → World → Prop) (W : World), W.heap.size = w.heap.size + 2 → Below w.heap.size w W →
      (∀ out W1 W2, J out W1 → Keep (· ≠ W.heap.size) W1 W2 → J out W2) →
      (∀ out ref e W1, W.heap.size < W1.heap.size → J out W1 → (e = 0 → out.length + 1 ≤ 1000000) → YieldAt F (n - 1 - 1) P (w.heap.size + 1) #[.int .i64 ref, .int .i64 e] W1 fun en W' =>
        (e = 0 ∧ en = .returned (.bool true) ∧ J (out ++ [ref]) W' ∧ Keep Ki W1 W') ∨ (e ≠ 0 ∧ en = .returned (.bool false) ∧ Jx e W')) →
      J [] W → CallsIn F (n - 1) P gf (#[.func (.yield (w.heap.size + 1)) #[] #[]] ++ lb) W fun en W' => (∃ v, en = .returned v) ∧ ((r.2 = 0 ∧ J r.1 W') ∨ (r.2 ≠ 0 ∧ r.1 = [] ∧ Jx r.2 W')))
    (hdone : ∀ W, r.2 = 0 → I r.1 W → W.heap[w.heap.size]? = some (.deferred (some [])) → Q .normal { a with defers := { target := .collected w.heap.size, args := #[] } :: a.defers } W)
    (hstop : ∀ W, r.2 ≠ 0 → r.1 = [] → Ix r.2 W → W.heap[w.heap.size]? = some (.deferred (some [])) → Code.ret.wpIn F n P Q { a with defers := { target := .collected w.heap.size, args := #[] } :: a.defers } W) :
    (Code.rangeFunc g ps assign body).wpIn F n P Q a w := by
  refine wpIn_rangeFunc fun fn hfn => ?_
  rw [hro]
  obtain ⟨rc, hrc⟩ : ∃ rc : LoopState → Option Code → Loop, rc = fun st pe => { state := st, pending := pe, fn, tmps := a.tmps, params := ps, assign, body, defers := w.heap.size } := ⟨_, rfl⟩
  obtain ⟨W1, hW1⟩ : ∃ W1, W1 = (w.alloc (.deferred (some []))).alloc (.loop (rc .ready none)) := ⟨_, rfl⟩
  have hsz : W1.heap.size = w.heap.size + 2 := by rw [hW1]; simp
  have hL1 : W1.heap[w.heap.size + 1]? = some (.loop (rc .ready none)) := by
    have := World.alloc_heap_new (w.alloc (.deferred (some []))) (.loop (rc .ready none)); rwa [World.size_alloc, ← hW1] at this
  have hD1 : W1.heap[w.heap.size]? = some (.deferred (some [])) := by
    rw [hW1]; exact (Below.heap_alloc _ _ _ (by simp)).trans (World.alloc_heap_new w _)
  have hbel : Below w.heap.size w W1 := by rw [hW1]; exact ((Below.refl _ w).alloc (Nat.le_refl _) _).alloc (by simp) _
  refine ⟨w.heap.size + 1, [{ target := .collected w.heap.size, args := #[] }], W1, { target := .fn (.func gf) lb, args := #[.func (.yield (w.heap.size + 1)) #[] #[]] }, W1, gf,
    #[.func (.yield (w.heap.size + 1)) #[] #[]] ++ lb, W1, ?_, ?_, ?_, ?_, fun _ => h1, ?_⟩
  · rw [hW1, hrc]; exact run_enterLoop_outer _ _ _ _ _
  · simp only [resolve, hg]
    simp [go_sem]
  · intro f' hf'; simp [Target.leads] at hf'; subst hf'; exact hFg
  · simp [invoke, go_sem, eg]
  refine (hit (fun out W => I out W ∧ W.heap[w.heap.size + 1]? = some (.loop (rc .ready none)) ∧ W.heap[w.heap.size]? = some (.deferred (some [])))
    (fun e W => Ix e W ∧ W.heap[w.heap.size + 1]? = some (.loop (rc .done (some .ret))) ∧ W.heap[w.heap.size]? = some (.deferred (some []))) W1 hsz hbel ?_ ?_ ?_).mono ?_
  · rintro out A B ⟨hi, hl, hd⟩ hk
    rw [hsz] at hk
    exact ⟨hI _ _ _ hi (hk.less fun k h => h.2.2), (hk.block _ (by simp) (Array.getElem?_eq_some_iff.1 hl).1).trans hl, (hk.block _ (by simp) (Array.getElem?_eq_some_iff.1 hd).1).trans hd⟩
  · rintro out ref e W hlt ⟨hi, hl, hd⟩ hlen
    rw [hsz] at hlt
    have hlt1 : w.heap.size + 1 < W.heap.size := by omega
    have hy := run_yield (P := P) (args := #[.int .i64 ref, .int .i64 e]) hl (by rw [hrc]; exact hps.symm)
    rw [hrc] at hy
    refine ⟨fn, _, assign, body, hy, roundIn_of_wpIn hfn (hassign ref e W _ ⟨_, run_beginRound hl (by rw [hrc]), ?_⟩)⟩
    obtain ⟨Wb, hWb⟩ : ∃ Wb, Wb = W.putObj (w.heap.size + 1) (.loop { rc .ready none with state := .busy }) := ⟨_, rfl⟩
    rw [← hWb]
    have hkb : Keep (fun k => k ≠ w.heap.size + 1) W Wb := by rw [hWb]; exact Keep.putObj (by simp)
    have hlb : Wb.heap[w.heap.size + 1]? = some (.loop { rc .ready none with state := .busy }) := by rw [hWb]; exact World.putObj_heap_same hlt1
    have hdb : Wb.heap[w.heap.size]? = some (.deferred (some [])) := (hkb.block _ (by simp) (Array.getElem?_eq_some_iff.1 hd).1).trans hd
    refine wpIn_mono (hbody out ref e Wb (hI _ _ _ hi (hkb.less fun k h => h.2.1)) (Nat.lt_of_lt_of_le hlt hkb.size) hlen) ?_
    rintro ex a3 W3 hp
    have fin : ∀ (jump : Option Code), Keep Kb Wb W3 →
        (Instr.endRound (w.heap.size + 1) jump).run P W3 = .ok (.bool jump.isNone) (W3.putObj (w.heap.size + 1) (.loop (rc (if jump.isNone then .ready else .done) jump))) ∧
        (W3.putObj (w.heap.size + 1) (.loop (rc (if jump.isNone then .ready else .done) jump))).heap[w.heap.size + 1]? = some (.loop (rc (if jump.isNone then .ready else .done) jump)) ∧
        (W3.putObj (w.heap.size + 1) (.loop (rc (if jump.isNone then .ready else .done) jump))).heap[w.heap.size]? = some (.deferred (some [])) := by
      intro jump hk3
      have hl3 := (hk3.block _ hKb.2 (Array.getElem?_eq_some_iff.1 hlb).1).trans hlb
      have hd3 := (hk3.block _ hKb.1 (Array.getElem?_eq_some_iff.1 hdb).1).trans hdb
      have hrun := run_endRound (P := P) jump hl3
      rw [hrc] at hrun ⊢
      exact ⟨hrun, World.putObj_heap_same (Array.getElem?_eq_some_iff.1 hl3).1, (World.putObj_heap_other (by omega)).trans hd3⟩
    cases ex with
    | normal =>
      obtain ⟨he, hi3, hk3⟩ := hp
      obtain ⟨hr, hl4, hd4⟩ := fin none hk3
      exact ⟨_, _, hr, .inl ⟨he, rfl, ⟨hI _ _ _ hi3 (Keep.putObj (by simp)), hl4, hd4⟩,
        ((hkb.less fun k h => (hKi k h).1).trans (hk3.less fun k h => (hKi k h).2)).trans (Keep.putObj fun h => (hKi _ h).1 rfl)⟩⟩
    | ret =>
      obtain ⟨he, hi3, hk3⟩ := hp
      obtain ⟨hr, hl4, hd4⟩ := fin (some .ret) hk3
      exact ⟨_, _, hr, .inr ⟨he, rfl, hIx _ _ _ hi3 (Keep.putObj (by simp)), hl4, hd4⟩⟩
    | exit id => exact hp.elim
    | goto t => exact hp.elim
    | panic ch => exact hp.elim
    | outgrown => exact hp.elim
  · exact ⟨hI _ _ _ h0 (Keep.of_below hbel), hL1, hD1⟩
  · rintro e W2 ⟨⟨v, rfl⟩, (⟨he, hi, hl, hd⟩ | ⟨he, ho, hi, hl, hd⟩)⟩
    · refine ⟨none, _, by have := run_endLoop (P := P) hl (by rw [hrc]; simp); rw [hrc] at this; exact this, hdone _ he (hI _ _ _ hi (Keep.putObj (by simp))) ((World.putObj_heap_other (by omega)).trans hd)⟩
    · refine ⟨some .ret, _, by have := run_endLoop (P := P) hl (by rw [hrc]; simp); rw [hrc] at this; exact this, hstop _ he ho (hIx _ _ _ hi (Keep.putObj (by simp))) ((World.putObj_heap_other (by omega)).trans hd)⟩
end Go.Proofs.YthnbleblmpnfhaaFn
