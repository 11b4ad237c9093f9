/- Regions: in the order of the text; in whatever order their edges allow; no condition. -/
import Derived.Test.YtkdohmgacodhjaaPx16
set_option linter.unusedVariables false
set_option linter.unusedSimpArgs false
namespace Go.Proofs.YtkdohmgacodhjaaPx
open Go.RowKit

section
variable {R : Type} {Λ : Nat → List SV → List Blk → Option R} {r : R} {S : Nat → Prop} {w0 : World} {n : Nat} {a : Act} {w : World} {P : Program} {Γ : FuncId → Option Sig} {ops : Array Oper}

def updO (f : Nat → Option SV) (d : Option Nat) (v : SV) : Nat → Option SV := match d with | some d => upd f d (some v) | none => f

/-- The state as a list stands for frame and world. -/
def HoldsSt (S : Nat → Prop) (w0 : World) (n : Nat) (st : St) (a : Act) (w : World) : Prop := ∃ ρ, Holds S w0 n (fun i => st.nx ≤ i) st.fE st.fH ρ a w

def HoldsAt (S : Nat → Prop) (w0 : World) (n : Nat) (st : St) (j : Nat) (a : Act) (w : World) : Prop := ∃ ρ, Holds S w0 n (fun i => st.nx + 32 * j ≤ i) st.fE st.fH ρ a w

theorem putE_fE (d : Option Nat) (v : SV) (E : List (Nat × SV)) (H : List (Nat × Option Blk)) (nx : Nat) : (St.mk (putE d v E) H nx).fE = updO (look E) d v := by
  cases d with
  | none => rfl
  | some d => exact look_cons d v E

theorem aft_fE (st : St) (d : Option Nat) (e : Eff) : (st.aft d e).fE = updO st.fE d e.dst := putE_fE _ _ _ _ _
theorem aft_fH (st : St) (d : Option Nat) (e : Eff) : (st.aft d e).fH = applyW e.wr st.fH := pushW_fH e.wr _ st.H st.nx st.nx

theorem Holds.put_opt {fr : Nat → Prop} {fE : Nat → Option SV} {fH : Nat → Option Blk} {ρ : Nat → Option Value} (h : Holds S w0 n fr fE fH ρ a w) (d : Option Nat) (hd : dstOk n d = true) (sv : SV) (v : Value) (hv : sv.Den (Al S fH ρ) w ρ v) :
    Holds S w0 n fr (updO fE d sv) fH ρ (a.put d v) w := by
  cases d with
  | none => exact h
  | some d => exact h.put d sv v (of_decide_eq_true hd) hv

theorem fix_fE {st : St} {t : Nat} {c : Bool} (h : st.fE t = some (.val (.one (.bool c)))) : (st.fix t c).fE = st.fE := by
  show look ((t, _) :: st.E) = _
  rw [look_cons]
  funext i
  by_cases hi : i = t
  · subst hi; rw [upd_same]; exact h.symm
  · rw [upd_other _ _ hi]; rfl

theorem undef_den {A : Nat → Prop} {ρ : Nat → Option Value} : (SV.val (.one .undef)).Den A w ρ undef := rfl

/-- Is it wanted? -/
theorem yielded_of {fr : Nat → Prop} {fE : Nat → Option SV} {fH : Nat → Option Blk} {ρ : Nat → Option Value} (h : Holds S w0 n fr fE fH ρ a w) {g t : Nat} (hg : guardTmp ops g = some t) :
    (∀ b, fE t = some (.val (.one (.bool b))) → yielded ops a.tmps g = some b) ∧ (fE t = some (.val (.one .undef)) → yielded ops a.tmps g = none) := by
  have key : ∀ {sv}, fE t = some sv → ∃ v, a.tmps[t]? = some v ∧ sv.Den (Al S fH ρ) w ρ v := by
    intro sv e
    obtain ⟨h1, h2⟩ := h.tmps t sv e
    have hlt : t < a.tmps.size := by rw [h.size]; exact h1
    refine ⟨a.tmps[t], by simp [hlt], ?_⟩
    have : a.tmps.getD t undef = a.tmps[t] := by simp [Array.getD, hlt]
    rw [← this]; exact h2
  unfold guardTmp at hg
  constructor
  · intro b e
    obtain ⟨v, hv, hd⟩ := key e
    have hd : v = .bool b := hd
    subst hd
    simp only [yielded, hg, Option.bind_some, hv]
  · intro e
    obtain ⟨v, hv, hd⟩ := key e
    have hd : v = undef := hd
    subst hd
    simp only [yielded, hg, Option.bind_some, hv]
    rfl

/-- One operation, wanted. -/
theorem step_wanted (hΓ : ∀ f s, Γ f = some s → GOk P f s) {st : St} {j : Nat} {o : Oper} {e : Eff} {fr : Nat → Prop} {ρ : Nat → Option Value} (h : Holds S w0 n fr st.fE st.fH ρ a w) (hid : ∀ i, st.nx + 32 * j ≤ i → i < st.nx + 32 * j + 32 → fr i) (hd : dstOk n o.dst = true)
    (he : (aopT P Γ (st.nx + 32 * j) o).Ev st.fE st.fH e) {next : Act → World → Prop} {Q : Exit → Act → World → Prop}
    (k : ∀ a' w' ρ', Holds S w0 n (lessF fr (st.nx + 32 * j)) (st.aft o.dst e).fE (st.aft o.dst e).fH ρ' a' w' → next a' w') : o.wp P a w next Q := by
  refine aopT_sound h hΓ hid he fun v w' hA => ?_
  obtain ⟨ρ', hH, hden⟩ := hA
  refine k _ w' ρ' ?_
  rw [aft_fE, aft_fH]
  exact hH.put_opt o.dst hd e.dst v hden

theorem ops_sound (hΓ : ∀ f s, Γ f = some s → GOk P f s) {Q : Exit → Act → World → Prop} {k : St → Dec R} : ∀ (l : List Oper) (j : Nat) (st : St) (a : Act) (w : World), (pxOps P Γ n ops l j st k).run Λ = some r → HoldsAt S w0 n st j a w →
    (∀ st' a' w', (k st').run Λ = some r → st'.nx = st.nx → HoldsAt S w0 n st' (j + l.length) a' w' → Q .normal a' w') → wpList P ops Q l a w
  | [], j, st, a, w, hr, h, hk => hk st a w hr rfl h
  | o :: l, j, st, a, w, hr, ⟨ρ, h⟩, hk => by
    have rest : ∀ (st' : St) (a' : Act) (w' : World), st'.nx = st.nx → HoldsAt S w0 n st' (j + 1) a' w' → (pxOps P Γ n ops l (j + 1) st' k).run Λ = some r → wpList P ops Q l a' w' := fun st' a' w' hx h' hr' =>
      ops_sound hΓ l (j + 1) st' a' w' hr' h' fun st'' a'' w'' h1 h2 h3 => hk st'' a'' w'' h1 (h2.trans hx) (by rw [List.length_cons, show j + (l.length + 1) = j + 1 + l.length by omega]; exact h3)
    have fr1 : ∀ i, lessF (fun i => st.nx + 32 * j ≤ i) (st.nx + 32 * j) i ↔ st.nx + 32 * (j + 1) ≤ i := by
      intro i; simp only [lessF]; omega
    simp only [pxOps] at hr
    split at hr
    · simp [Dec.run] at hr
    · rename_i hd
      have exec : ∀ (st0 : St), st0.nx = st.nx → st0.fE = st.fE → st0.fH = st.fH → ((aopT P Γ (st.nx + 32 * j) o).dec st0 fun e => pxOps P Γ n ops l (j + 1) (st0.aft o.dst e) k).run Λ = some r → o.wp P a w (wpList P ops Q l) Q := by
        intro st0 hn hE hH hr
        obtain ⟨e, he, hr⟩ := RM.dec_run hr
        have h0 : Holds S w0 n (fun i => st.nx + 32 * j ≤ i) st0.fE st0.fH ρ a w := by rw [hE, hH]; exact h
        have he0 : (aopT P Γ (st0.nx + 32 * j) o).Ev st0.fE st0.fH e := by rw [hn]; exact he
        refine step_wanted hΓ h0 (fun i h1 h2 => by rw [hn] at h1; exact h1) hd he0 fun a' w' ρ' hH' => rest (st0.aft o.dst e) a' w' hn ⟨ρ', ?_⟩ hr
        refine hH'.fewer fun i q => ?_
        have : (st0.aft o.dst e).nx = st.nx := hn
        rw [this] at q
        rw [hn]
        exact (fr1 i).2 q
      have skip : ∀ (st0 : St), st0.nx = st.nx → st0.fE = st.fE → st0.fH = st.fH → (pxOps P Γ n ops l (j + 1) (st0.skip o.dst) k).run Λ = some r → wpList P ops Q l (a.put o.dst undef) w := by
        intro st0 hn hE hH hr
        refine rest (st0.skip o.dst) _ w hn ⟨ρ, ?_⟩ hr
        have h1 := (h.fewer (fr' := fun i => st.nx + 32 * (j + 1) ≤ i) (fun i q => by omega)).put_opt o.dst hd (.val (.one .undef)) undef undef_den
        have e1 : (st0.skip o.dst).fE = updO st.fE o.dst (.val (.one .undef)) := by rw [← hE]; exact putE_fE _ _ _ _ _
        have e2 : (st0.skip o.dst).fH = st.fH := hH
        rw [e1, e2]
        show Holds S w0 n (fun i => st0.nx + 32 * (j + 1) ≤ i) _ _ ρ _ w
        rw [hn]
        exact h1
      unfold wpList
      split at hr
      · rename_i hg
        rw [if_pos (by simp [Region.wanted, hg])]
        exact .inl (exec st rfl rfl rfl hr)
      · rename_i g want hg
        split at hr
        · simp [Dec.run] at hr
        · rename_i t ht
          obtain ⟨hy1, hy2⟩ := yielded_of (ops := ops) h ht
          split at hr
          · rename_i b hb
            have hw : Region.wanted o (yielded ops a.tmps) = (b == want) := by
              simp only [Region.wanted, hg, hy1 b hb]
              cases b <;> cases want <;> rfl
            have go : ∀ c, b = c → (match c == want with
              | true => (aopT P Γ (st.nx + 32 * j) o).dec (st.fix t c) fun e => pxOps P Γ n ops l (j + 1) ((st.fix t c).aft o.dst e) k
              | false => pxOps P Γ n ops l (j + 1) ((st.fix t c).skip o.dst) k : Dec R).run Λ = some r →
              if Region.wanted o (yielded ops a.tmps) then o.wp P a w (wpList P ops Q l) Q ∨ (o.asks P a w ∧ LetsOut Q) else wpList P ops Q l (a.put o.dst undef) w := by
              intro c hc hr
              subst hc
              rw [hw]
              cases hbw : (b == want) with
              | true =>
                rw [hbw] at hr
                rw [if_pos rfl]
                exact .inl (exec (st.fix t b) rfl (fix_fE hb) rfl hr)
              | false =>
                rw [hbw] at hr
                rw [if_neg (by simp)]
                exact skip (st.fix t b) rfl (fix_fE hb) rfl hr
            cases b with
            | true => exact go true rfl hr
            | false => exact go false rfl hr
          · rename_i hb
            rw [if_neg (by simp [Region.wanted, hg, hy2 hb])]
            exact skip st rfl rfl rfl hr
          · simp [Dec.run] at hr
end
end Go.Proofs.YtkdohmgacodhjaaPx
