/- Code; no condition. -/
import Derived.Test.YtkdohmgacodhjaaPx20
import Derived.LoopN
import Derived.Tactics
set_option linter.unusedVariables false
set_option linter.unusedSimpArgs false
namespace Go.Proofs.YtkdohmgacodhjaaPx
open Go.RowKit

inductive Ex where
  | normal
  | exit (id : Nat)
  | ret

def Ex.to : Ex → Exit
  | .normal => .normal
  | .exit id => .exit id
  | .ret => .ret

def lab : Code → Option Nat
  | .region id _ _ => some id
  | .seq x y => match lab x with | some i => some i | none => lab y
  | .cond _ x y => match lab x with | some i => some i | none => lab y
  | .block _ x => lab x
  | .loop x => lab x
  | _ => none

def keyL (x : Code) : Nat := match lab x with | some i => 2 * i + 2 | none => 0
def keyJ (x : Code) : Nat := match lab x with | some i => 2 * i + 3 | none => 1

def St.fixO (st : St) (c : Operand) (b : Bool) : St := match c with | .tmp t => st.fix t b | _ => st
def condM (c : Operand) : RM Bool := ev c fun | .val (.one (.bool b)) => .ret b | _ => .fail

section
variable {R : Type}

def toCut (L : Nat) (live : List Nat) (st : St) : Dec R := match canon live st with | some (vs, bs) => .cut L vs bs | none => .fail

def kBlock (id : Nat) (κ : Ex → St → Dec R) (e : Ex) (st : St) : Dec R := match e with
  | .exit i => (match Nat.beq i id with | true => κ .normal st | false => κ (.exit i) st)
  | .normal => κ .normal st
  | .ret => κ .ret st
def kThen (next : St → Dec R) (κ : Ex → St → Dec R) (e : Ex) (st : St) : Dec R := match e with
  | .normal => next st
  | .exit i => κ (.exit i) st
  | .ret => κ .ret st

/-- A loop, round by round. -/
def unr (f : (Ex → St → Dec R) → St → Dec R) (κ : Ex → St → Dec R) : Nat → St → Dec R
  | 0, _ => .fail
  | n + 1, st => f (kThen (unr f κ n) κ) st

def hasCut (T : List (Nat × List Nat)) : Code → Bool
  | .seq x y => match look T (keyJ y) with | some _ => true | none => (match hasCut T x with | true => true | false => hasCut T y)
  | .cond _ x y => match hasCut T x with | true => true | false => hasCut T y
  | .block _ x => hasCut T x
  | .loop x => match look T (keyL x) with | some _ => true | none => hasCut T x
  | _ => false

def px (P : Program) (Γ : FuncId → Option Sig) (n : Nat) (T : List (Nat × List Nat)) : Code → (Ex → St → Dec R) → St → Dec R
  | .skip, κ, st => κ .normal st
  | .exit id, κ, st => κ (.exit id) st
  | .ret, κ, st => κ .ret st
  | .region _ ops draw, κ, st => match draw with
    | true => pxAny P Γ n ops st fun st' => κ .normal ⟨st'.E, st'.H, st'.nx + 32 * ops.size⟩
    | false => pxOps P Γ n ops ops.toList 0 st fun st' => κ .normal ⟨st'.E, st'.H, st'.nx + 32 * ops.size⟩
  | .seq x y, κ, st => match look T (keyJ y) with
    | some live => px P Γ n T x (kThen (toCut (keyJ y) live) κ) st
    | none => px P Γ n T x (kThen (px P Γ n T y κ) κ) st
  | .cond c x y, κ, st => (condM c).dec st fun b => .br b (px P Γ n T x κ (st.fixO c true)) (px P Γ n T y κ (st.fixO c false))
  | .block id x, κ, st => px P Γ n T x (kBlock id κ) st
  | .loop x, κ, st => match look T (keyL x) with
    | some live => toCut (keyL x) live st
    | none => (match hasCut T x with | true => .fail | false => unr (px P Γ n T x) κ 40 st)
  | _, _, _ => .fail

structure Cut (R : Type) where
  L : Nat
  live : List Nat
  g : St → Dec R

/-- The cuts of a text, and what comes behind them. -/
def cuts (P : Program) (Γ : FuncId → Option Sig) (n : Nat) (T : List (Nat × List Nat)) : Code → (Ex → St → Dec R) → List (Cut R)
  | .seq x y, κ => match look T (keyJ y) with
    | some live => ⟨keyJ y, live, px P Γ n T y κ⟩ :: (cuts P Γ n T x (kThen (toCut (keyJ y) live) κ) ++ cuts P Γ n T y κ)
    | none => cuts P Γ n T x (kThen (px P Γ n T y κ) κ) ++ cuts P Γ n T y κ
  | .cond c x y, κ => cuts P Γ n T x κ ++ cuts P Γ n T y κ
  | .block id x, κ => cuts P Γ n T x (kBlock id κ)
  | .loop x, κ => match look T (keyL x) with
    | some live => ⟨keyL x, live, px P Γ n T x (kThen (toCut (keyL x) live) κ)⟩ :: cuts P Γ n T x (kThen (toCut (keyL x) live) κ)
    | none => []
  | _, _ => []

def CutOk (Λ : Nat → Nat → List SV → List Blk → Option R) (p : Cut R) : Prop :=
  ∀ k vs bs r, Λ (k + 1) p.L vs bs = some r → (p.g (mkSt p.live vs bs)).run (Λ k) = some r

variable {Λ : Nat → Nat → List SV → List Blk → Option R} {r : R} {S : Nat → Prop} {w0 : World} {n : Nat} {P : Program} {Γ : FuncId → Option Sig} {T : List (Nat × List Nat)}

theorem HoldsAt.done {st' : St} {m : Nat} {a : Act} {w : World} (h : HoldsAt S w0 n st' m a w) : HoldsSt S w0 n ⟨st'.E, st'.H, st'.nx + 32 * m⟩ a w := h

theorem rounds_mono {c : Code} {Q : Exit → Act → World → Prop} : ∀ {k k' : Nat} {a : Act} {w : World}, k' ≤ k → Code.rounds P c Q k' a w → Code.rounds P c Q k a w
  | _, 0, _, _, _, h => h.elim
  | 0, _ + 1, _, _, hk, _ => absurd hk (by omega)
  | k + 1, k' + 1, a, w, hk, h => wp_mono (show c.wp P (Exit.then (Code.rounds P c Q k') Q) a w from h) fun e a w q => by
      cases e with
      | normal => exact rounds_mono (by omega) q
      | _ => exact q

theorem holds_fixO {c : Operand} {st : St} {b : Bool} {a : Act} {w : World} (hc : (condM c).Ev st.fE st.fH b) (h : HoldsSt S w0 n st a w) : a.eval c = .bool b ∧ HoldsSt S w0 n (st.fixO c b) a w := by
  obtain ⟨ρ, h⟩ := h
  have hc0 := hc
  obtain ⟨sv, hd, he⟩ := ev_sound h hc
  have hb : ∀ {sv : SV}, (match (motive := SV → RM Bool) sv with | .val (.one (.bool b)) => .ret b | _ => .fail).Ev st.fE st.fH b → sv = .val (.one (.bool b)) := by
    intro sv he
    split at he
    · obtain rfl := he; rfl
    · exact he.elim
  obtain rfl := hb he
  refine ⟨hd, ρ, ?_⟩
  cases c with
  | tmp t =>
    obtain ⟨sv, h1, h2⟩ := hc0
    obtain rfl := hb h2
    show Holds S w0 n _ (st.fix t b).fE st.fH ρ a w
    rw [fix_fE h1]
    exact h
  | _ => exact h

theorem cuts_none : ∀ (x : Code) (κ : Ex → St → Dec R), hasCut T x = false → cuts P Γ n T x κ = []
  | .seq x y, κ, h => by
    unfold hasCut at h
    unfold cuts
    split at h
    · cases h
    · rename_i hT
      try rw [hT]
      split at h
      · cases h
      · rename_i hx
        rw [cuts_none x _ hx, cuts_none y _ h]; rfl
  | .cond _ x y, κ, h => by
    unfold hasCut at h
    unfold cuts
    split at h
    · cases h
    · rename_i hx
      rw [cuts_none x _ hx, cuts_none y _ h]; rfl
  | .block _ x, κ, h => by unfold hasCut at h; unfold cuts; exact cuts_none x _ h
  | .loop x, κ, h => by
    unfold hasCut at h
    unfold cuts
    split at h
    · cases h
    · rename_i hT
      first | rfl | rw [hT]
  | .skip, _, _ => rfl
  | .region _ _ _, _, _ => rfl
  | .exit _, _, _ => rfl
  | .ret, _, _ => rfl
  | .rangeFunc _ _ _ _, _, _ => rfl
  | .scope _, _, _ => rfl
  | .label _, _, _ => rfl
  | .goto _, _, _ => rfl
  | .refuse _, _, _ => rfl

theorem px_sound (hm : P.follows .mixedOrders = true) (hΓ : ∀ f s, Γ f = some s → GOk P f s) (h0 : ∀ L vs bs, Λ 0 L vs bs = none) :
    ∀ (c : Code) (κ : Ex → St → Dec R), (∀ p ∈ cuts P Γ n T c κ, CutOk Λ p) → ∀ (k : Nat) (st : St) (a : Act) (w : World) (Q : Exit → Act → World → Prop), (px P Γ n T c κ st).run (Λ k) = some r → HoldsSt S w0 n st a w →
      (∀ k', k' ≤ k → ∀ e st a w, (κ e st).run (Λ k') = some r → HoldsSt S w0 n st a w → Q e.to a w) → c.wp P Q a w := by
  have cut : ∀ {L : Nat} {live : List Nat} {g : St → Dec R} {st : St} {a : Act} {w : World} {k : Nat}, CutOk Λ ⟨L, live, g⟩ → (toCut L live st).run (Λ k) = some r → HoldsSt S w0 n st a w →
      ∃ k' st', k = k' + 1 ∧ (g st').run (Λ k') = some r ∧ HoldsSt S w0 n st' a w ∧ ∃ vs bs, st' = mkSt live vs bs := by
    intro L live g st a w k hc hr h
    unfold toCut at hr
    split at hr
    · rename_i vs bs hcan
      cases k with
      | zero => simp only [Dec.run, h0] at hr; cases hr
      | succ k => exact ⟨k, mkSt live vs bs, rfl, hc k vs bs r hr, canon_sound hcan h, vs, bs, rfl⟩
    · simp [Dec.run] at hr
  intro c
  induction c with
  | skip => intro κ _ k st a w Q hr h hQ; exact wp_skip (hQ k (Nat.le_refl _) .normal st a w hr h)
  | exit id => intro κ _ k st a w Q hr h hQ; exact wp_exit (hQ k (Nat.le_refl _) (.exit id) st a w hr h)
  | ret => intro κ _ k st a w Q hr h hQ; exact wp_ret (hQ k (Nat.le_refl _) .ret st a w hr h)
  | region id ops draw =>
    intro κ _ k st a w Q hr h hQ
    cases draw with
    | true =>
      exact pxAny_sound hm hΓ hr h fun st' a' w' hr' hn h' => hQ k (Nat.le_refl _) .normal _ a' w' hr' h'.done
    | false =>
      refine Go.wp_region ?_
      rw [List.range_eq_range', ← Array.length_toList, wpOps_eq_wpList ops.toList 0 (fun j => by simp)]
      obtain ⟨ρ, h⟩ := h
      exact ops_sound hΓ ops.toList 0 st a w hr ⟨ρ, by simpa using h⟩ fun st' a' w' hr' hn h' => hQ k (Nat.le_refl _) .normal _ a' w' hr' (by simpa using h'.done)
  | seq x y ihx ihy =>
    intro κ hc k st a w Q hr h hQ
    unfold px at hr
    unfold cuts at hc
    split at hr
    · rename_i live hT
      rw [hT] at hc
      simp only [List.mem_cons, List.mem_append] at hc
      refine wp_seq (ihx _ (fun p hp => hc p (.inr (.inl hp))) k st a w _ hr h fun k' hk e st a w hr h => ?_)
      cases e with
      | normal =>
        obtain ⟨k2, st2, rfl, hr2, h2, _⟩ := cut (hc _ (.inl rfl)) hr h
        exact ihy _ (fun p hp => hc p (.inr (.inr hp))) k2 st2 a w Q hr2 h2 fun k3 hk3 => hQ k3 (by omega)
      | exit id => exact hQ k' hk (.exit id) st a w hr h
      | ret => exact hQ k' hk .ret st a w hr h
    · rename_i hT
      rw [hT] at hc
      simp only [List.mem_append] at hc
      refine wp_seq (ihx _ (fun p hp => hc p (.inl hp)) k st a w _ hr h fun k' hk e st a w hr h => ?_)
      cases e with
      | normal => exact ihy _ (fun p hp => hc p (.inr hp)) k' st a w Q hr h fun k3 hk3 => hQ k3 (by omega)
      | exit id => exact hQ k' hk (.exit id) st a w hr h
      | ret => exact hQ k' hk .ret st a w hr h
  | cond c x y ihx ihy =>
    intro κ hc k st a w Q hr h hQ
    unfold px at hr
    unfold cuts at hc
    simp only [List.mem_append] at hc
    obtain ⟨b, hb, hr⟩ := RM.dec_run hr
    obtain ⟨he, h'⟩ := holds_fixO hb h
    refine wp_cond_split he (fun q => ?_) (fun q => ?_)
    · subst q
      exact ihx κ (fun p hp => hc p (.inl hp)) k _ a w Q hr h' hQ
    · subst q
      exact ihy κ (fun p hp => hc p (.inr hp)) k _ a w Q hr h' hQ
  | block id x ih =>
    intro κ hc k st a w Q hr h hQ
    unfold px at hr
    unfold cuts at hc
    refine wp_block (ih _ hc k st a w _ hr h fun k' hk e st a w hr h => ?_)
    cases e with
    | normal => exact hQ k' hk .normal st a w hr h
    | ret => exact hQ k' hk .ret st a w hr h
    | exit i =>
      simp only [Ex.to, Exit.inBlock]
      simp only [kBlock] at hr
      split at hr
      · rename_i hb
        rw [if_pos (Nat.eq_of_beq_eq_true hb)]
        exact hQ k' hk .normal st a w hr h
      · rename_i hb
        rw [if_neg (Nat.ne_of_beq_eq_false hb)]
        exact hQ k' hk (.exit i) st a w hr h
  | loop x ih =>
    intro κ hc k st a w Q hr h hQ
    unfold px at hr
    unfold cuts at hc
    split at hr
    · rename_i live hT
      rw [hT] at hc
      simp only [List.mem_cons] at hc
      have key : ∀ (k' : Nat), k' ≤ k → ∀ (st : St) (a : Act) (w : World), (toCut (keyL x) live st).run (Λ k') = some r → HoldsSt S w0 n st a w → Code.rounds P x Q k' a w := by
        intro k'
        induction k' using Nat.strongRecOn with
        | _ k' ihk =>
          intro hk st a w hr h
          obtain ⟨k2, st2, e, hr2, h2, _⟩ := cut (hc _ (.inl rfl)) hr h
          subst e
          show x.wp P (Exit.then (Code.rounds P x Q k2) Q) a w
          refine ih _ (fun p hp => hc p (.inr hp)) k2 st2 a w _ hr2 h2 fun k3 hk3 e st a w hr h => ?_
          cases e with
          | normal => exact rounds_mono hk3 (ihk k3 (by omega) (by omega) st a w hr h)
          | exit id => exact hQ k3 (by omega) (.exit id) st a w hr h
          | ret => exact hQ k3 (by omega) .ret st a w hr h
      exact wp_loop_rounds k (key k (Nat.le_refl _) st a w hr h)
    · split at hr
      · simp [Dec.run] at hr
      · rename_i hx
        have key : ∀ (m k' : Nat), k' ≤ k → ∀ (st : St) (a : Act) (w : World), (unr (px P Γ n T x) κ m st).run (Λ k') = some r → HoldsSt S w0 n st a w → Code.rounds P x Q m a w := by
          intro m
          induction m with
          | zero => intro k' _ st a w hr h; simp [unr, Dec.run] at hr
          | succ m ihm =>
            intro k' hk st a w hr h
            show x.wp P (Exit.then (Code.rounds P x Q m) Q) a w
            refine ih _ (by rw [cuts_none x _ hx]; intro p hp; simp at hp) k' st a w _ hr h fun k3 hk3 e st a w hr h => ?_
            cases e with
            | normal => exact ihm k3 (by omega) st a w hr h
            | exit id => exact hQ k3 (by omega) (.exit id) st a w hr h
            | ret => exact hQ k3 (by omega) .ret st a w hr h
        exact wp_loop_rounds 40 (key 40 k (Nat.le_refl _) st a w hr h)
  | _ => intro κ _ k st a w Q hr; simp [px, Dec.run] at hr
end
end Go.Proofs.YtkdohmgacodhjaaPx
