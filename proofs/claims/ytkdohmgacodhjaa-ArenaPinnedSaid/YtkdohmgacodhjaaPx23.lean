/- A function's contract out of a run of the evaluator; no condition. -/
import Derived.Test.YtkdohmgacodhjaaPx22
set_option linter.unusedVariables false
set_option linter.unusedSimpArgs false
namespace Go.Proofs.YtkdohmgacodhjaaPx
open Go.RowKit

section
variable {S : Nat → Prop} {w0 : World} {n : Nat} {fr : Nat → Prop} {fE : Nat → Option SV} {fH : Nat → Option Blk} {ρ : Nat → Option Value} {a : Act} {w : World} {P : Program}

theorem toSV_retV {A : Nat → Prop} : ∀ {xs : List V1} {vs : List Value}, DenVs A w ρ xs vs → (toSV xs).Den A w ρ (retV vs)
  | [], [], h => ⟨[], rfl, h⟩
  | [x], [v], h => h.1
  | x :: y :: xs, v :: u :: vs, h => ⟨v :: u :: vs, rfl, h⟩
  | [], _ :: _, h => h.elim
  | _ :: _, [], h => h.elim
  | [_], _ :: _ :: _, h => h.2.elim
  | _ :: _ :: _, [_], h => h.2.elim

theorem encTup_length : ∀ (l : List VT) (x : Tup l), (encTup l x).length = l.length
  | [], _ => rfl
  | [_], _ => rfl
  | _ :: b :: l, x => congrArg (· + 1) (encTup_length (b :: l) x.2)

theorem look_zipA : ∀ (l : List V1) (k t : Nat) (sv : SV), look (zipA k l) t = some sv → k ≤ t ∧ ∃ x, l[t - k]? = some x ∧ sv = .val x
  | [], k, t, sv, h => by simp [zipA, look] at h
  | x :: l, k, t, sv, h => by
    simp only [zipA, look] at h
    split at h
    · rename_i e
      obtain rfl := Nat.eq_of_beq_eq_true e
      simp only [Option.some.injEq] at h
      exact ⟨Nat.le_refl _, x, by simp, h.symm⟩
    · rename_i e
      have hne := Nat.ne_of_beq_eq_false e
      obtain ⟨h1, y, h2, h3⟩ := look_zipA l (k + 1) t sv h
      refine ⟨by omega, y, ?_, h3⟩
      rw [show t - k = t - (k + 1) + 1 by omega]
      simpa using h2

theorem lkF_mem : ∀ {l : List (Nat × Blk)} {j : Nat} {b : Blk}, lkF l j = some b → (j, b) ∈ l
  | [], j, b, h => by simp [lkF, applyW] at h
  | p :: l, j, b, h => by
    have h : applyW (l.map fun p => (p.1, some p.2)) (upd (fun _ => none) p.1 (some p.2)) j = some b := h
    rw [applyW_some] at h
    replace h : (match lkF l j with | some b => some b | none => upd (fun _ => none) p.1 (some p.2) j) = some b := h
    cases e : lkF l j with
    | some b' =>
      rw [e] at h
      simp only [Option.some.injEq] at h
      subst h
      exact List.mem_cons_of_mem _ (lkF_mem e)
    | none =>
      rw [e] at h
      simp only [upd] at h
      split at h
      · rename_i e
        simp only [Option.some.injEq] at h
        subst h; subst e
        simp
      · simp at h

theorem lkF_has : ∀ {l : List (Nat × Blk)} {j : Nat} {b : Blk}, (j, b) ∈ l → ∃ b', lkF l j = some b'
  | p :: l, j, b, h => by
    show ∃ b', applyW (l.map fun p => (p.1, some p.2)) (upd (fun _ => none) p.1 (some p.2)) j = some b'
    rw [applyW_some]
    show ∃ b', (match lkF l j with | some b => some b | none => upd (fun _ => none) p.1 (some p.2) j) = some b'
    cases e : lkF l j with
    | some b' => exact ⟨b', rfl⟩
    | none =>
      rcases List.mem_cons.1 h with rfl | h
      · exact ⟨b, by simp [upd]⟩
      · obtain ⟨b', h'⟩ := lkF_has h
        rw [e] at h'; cases h'

theorem mem_someL : ∀ {ds : Ds} {p q i : Nat}, p < q → ds[p]? = some (some i) → ds[q]? = some (some i) → ¬ (someL ds).Nodup
  | [], p, q, i, _, h, _ => by simp at h
  | d :: ds, p, q, i, hpq, h1, h2 => by
    have hin : ∀ {l : Ds} {q : Nat}, l[q]? = some (some i) → i ∈ someL l := by
      intro l
      induction l with
      | nil => intro q h; simp at h
      | cons e l ih =>
        intro q h
        cases q with
        | zero => simp at h; subst h; simp [someL]
        | succ q =>
          have := ih (q := q) (by simpa using h)
          cases e <;> simp [someL, this]
    cases q with
    | zero => omega
    | succ q =>
      have h2' : ds[q]? = some (some i) := by simpa using h2
      cases p with
      | zero =>
        simp at h1; subst h1
        intro hn
        exact (List.nodup_cons.1 (show (i :: someL ds).Nodup from hn)).1 (hin h2')
      | succ p =>
        have := mem_someL (ds := ds) (p := p) (q := q) (i := i) (by omega) (by simpa using h1) h2'
        cases d with
        | none => exact this
        | some j => exact fun hn => this (List.nodup_cons.1 (show (j :: someL ds).Nodup from hn)).2

/-- What is handed over is in order. -/
theorem own_resOk (h : Holds S w0 n fr fE fH ρ a w) {xs : List V1} {ds : Ds} {vs : List Value} (hpl : xs.all (fun x => x.cells.all Sc.plain) = true) (hn : nodupB (someL ds) = true) (hx : ExpVs fH ρ xs ds vs) (base : Nat) : ResOk S w0.heap.size w ((ownVs base xs).1, (ownVs base xs).2.1) (retV vs) := by
  obtain ⟨_, ⟨hlen, hown⟩, hden⟩ := ownVs_spec base hpl hx
  let ρr : Nat → Option Value := fun i => if base ≤ i then (ds[i - base]?).bind (valO ρ) else none
  have hat : At ρ ρr base ds := fun p d e => by simp [ρr, e]
  have key : ∀ i blk, lkF (ownVs base xs).2.1 i = some blk → ∃ p d, i = base + p ∧ ds[p]? = some d ∧ Src fH d blk ∧ ρr i = valO ρ d := by
    intro i blk e
    obtain ⟨p, hp⟩ := List.mem_iff_getElem?.1 (lkF_mem e)
    obtain ⟨e1, d, e2, e3⟩ := hown p _ hp
    have e1' : i = base + p := e1
    exact ⟨p, d, e1, e2, e3, by rw [e1']; exact hat p d e2⟩
  have hA : ∀ b, Al S fH ρ b → Al S (lkF (ownVs base xs).2.1) ρr b := fun b hb => ⟨hb.1, fun i blk v e1 e2 => by
    obtain ⟨p, d, _, _, h1, h2⟩ := key i blk e1
    rw [h2] at e2
    cases d with
    | some d => exact hb.2 d blk v h1.1 e2
    | none => obtain rfl := Option.some.inj e2; simp [ownB]⟩
  refine ⟨ρr, fun i blk e => ?_, fun i j bi bj vi vj b hne e1 e2 e3 e4 => ?_, fun i v e => ?_, toSV_retV (hden ρr _ w hat)⟩
  · obtain ⟨p, d, _, _, h1, h2⟩ := key i blk e
    cases d with
    | none =>
      obtain ⟨t, rfl⟩ := h1
      exact ⟨_, h2, .inl ⟨rfl, rfl⟩⟩
    | some d =>
      obtain ⟨h1, t, ys, rfl⟩ := h1
      obtain ⟨v, h3, h4⟩ := h.blks d _ h1
      refine ⟨v, by rw [h2]; exact h3, ?_⟩
      rcases h4 with h | ⟨b, o, c, arr, e, h1, h2, h3, h4, h5, h6⟩
      · exact .inl h
      · exact .inr ⟨b, o, c, arr, e, h1, h2, h3, h4, h5, fun i hi => DenC.step (fun b o v ha hv => ⟨hA b ha, hv⟩) t _ _ _ (fun _ _ _ e => e) (h6 i hi)⟩
  · obtain ⟨p, d, h1, h2, h3, h4⟩ := key i bi e1
    obtain ⟨q, g, g1, g2, g3, g4⟩ := key j bj e2
    rw [h4] at e3
    rw [g4] at e4
    cases d with
    | none => obtain rfl := Option.some.inj e3; simp [ownB]
    | some d =>
      cases g with
      | none => obtain rfl := Option.some.inj e4; simp [ownB]
      | some g =>
        refine h.inj d g bi bj vi vj b (fun e => ?_) h3.1 g3.1 e3 e4
        subst e
        have hpq : p ≠ q := fun e => hne (by omega)
        rcases Nat.lt_or_gt_of_ne hpq with l | l
        · exact mem_someL l h2 g2 (nodupB_spec hn)
        · exact mem_someL l g2 h2 (nodupB_spec hn)
  · simp only [ρr] at e
    split at e
    · rename_i hb
      obtain ⟨d, h1, h2⟩ := Option.bind_eq_some_iff.1 e
      refine ⟨?_, ?_⟩
      · cases d with
        | some d => exact h.shape d v h2
        | none => obtain rfl := Option.some.inj h2; rfl
      obtain ⟨hlt, _⟩ := List.getElem?_eq_some_iff.1 h1
      have hlt2 : i - base < (ownVs base xs).2.1.length := by omega
      obtain ⟨e1, _⟩ := hown (i - base) _ (List.getElem?_eq_getElem hlt2)
      refine lkF_has (b := ((ownVs base xs).2.1[i - base]).2) ?_
      have : ((ownVs base xs).2.1[i - base]) = (i, ((ownVs base xs).2.1[i - base]).2) := Prod.ext (by omega) rfl
      rw [← this]
      exact List.getElem_mem _
    · cases e

/-- One call. -/
theorem fn_calls {f : FuncId} {fn : Func} {c : Code} {s : Sig} {Γ : FuncId → Option Sig} {T : List (Nat × List Nat)} {Λ : Nat → Nat → List SV → List Blk → Option (Tup s.res)} (K : Nat)
    (hf : P.funcs[f]? = some fn) (hb : fn.body = some c) (hm : P.follows .mixedOrders = true) (hΓ : ∀ f s, Γ f = some s → GOk P f s) (hsz : fn.results.size ≤ 4)
    (h0 : ∀ L vs bs, Λ 0 L vs bs = none) (hcuts : ∀ p ∈ cuts P Γ fn.ntmps T c (κ0 P fn s.own s.res), CutOk Λ p)
    {S : Nat → Prop} {w : World} {av : List V1} {r : Tup s.res} {vs : List Value} (hargs : av.length ≤ fn.ntmps) (hrun : (pxFn P Γ T fn c s.own s.res av).run (Λ K) = some r) (hS : ∀ b, w.heap.size ≤ b → S b) (hvs : DenVs S w noρ av vs) :
    Calls P f vs.toArray w fun e w' => ∃ v, e = .returned v ∧ Below w.heap.size w w' ∧ ∀ base, ResOk S w.heap.size w' (s.out base r) v := by
  have hlen : vs.length = av.length := by rw [← hvs.length]
  refine calls_of_wp hf hb ?_
  have start : HoldsSt S w fn.ntmps (st0 av) { tmps := vs.toArray ++ Array.replicate (fn.ntmps - vs.toArray.size) undef, defers := [] } w := by
    refine ⟨noρ, by simp; omega, rfl, fun t sv e => ?_, fun i blk e => ?_, fun i j bi bj vi vj b hne e1 => ?_, fun i _ => ⟨rfl, rfl⟩, Below.refl _ _, hS, fun i v e => by cases e⟩
    · obtain ⟨_, y, e1, rfl⟩ := look_zipA _ 0 t sv e
      obtain ⟨v, e2, e3⟩ := hvs.get e1
      have hlt : t < vs.length := (List.getElem?_eq_some_iff.1 e2).1
      refine ⟨by omega, ?_⟩
      have : (vs.toArray ++ Array.replicate (fn.ntmps - vs.toArray.size) undef).getD t undef = v := by
        have h1 : t < (vs.toArray ++ Array.replicate (fn.ntmps - vs.toArray.size) undef).size := by simp; omega
        have h2 : t - 0 = t := rfl
        rw [h2] at e2
        simp only [Array.getD, h1, dite_true]
        rw [Array.getInternal_eq_getElem, Array.getElem_append_left (by simpa using hlt)]
        have := (List.getElem?_eq_some_iff.1 e2).2
        simpa using this
      show y.Den _ w noρ _
      rw [this]
      exact V1.Den.step (fun b o v hb hv => ⟨⟨hb, fun i blk v e => by cases e⟩, hv⟩) (Ext.refl _) e3
    · cases e
    · cases e1
  refine px_sound hm hΓ h0 c _ hcuts K _ _ _ _ hrun start fun k' _ e st a w' hr h => ?_
  have fin : ((retM P fn s.own s.res).dec st .ret).run (Λ k') = some r → a.defers = [] ∧ ∃ v, (results fn a.tmps).run P w' = .ok v w' ∧ (∃ v', Ending.returned v = .returned v' ∧ Below w.heap.size w w' ∧ ∀ base, ResOk S w.heap.size w' (s.out base r) v') := by
    intro hr
    obtain ⟨x', he, hr⟩ := RM.dec_run hr
    obtain rfl : x' = r := Option.some.inj hr
    obtain ⟨ρ, h⟩ := h
    obtain ⟨xs, us, he, hg, hd⟩ := resL_sound h he
    refine ⟨h.defers, retV us, results_gets hsz hg, retV us, rfl, h.below, fun base => ?_⟩
    cases hown : s.own with
    | false =>
      rw [hown] at he
      obtain ⟨ys, ds, he, hys⟩ := sealVs_sound h hd he
      split at he
      · rename_i z hz
        obtain rfl := he
        have h1 := decTup_den s.res ys _ us hz (hys ds fun _ q => q)
        have ho : s.out base x' = (encTup s.res x', []) := by simp [Sig.out, hown]
        rw [ho]
        refine ⟨noρ, fun i blk e => (by cases e), fun i j bi bj vi vj b hne e1 => (by cases e1), fun i v e => (by cases e), toSV_retV (encTup_names (fun b o v ha hv => ⟨⟨ha.1, fun i blk v e => (by cases e)⟩, hv⟩) s.res x' h1)⟩
      · exact he.elim
    | true =>
      rw [hown] at he
      obtain ⟨ys, ds, he, hys⟩ := exVs_sound hd he
      split at he
      · rename_i hn
        split at he
        · rename_i z hz
          obtain rfl := he
          have h1 := decTup_exp s.res ys _ ds us hz hys
          have ho : s.out base x' = ((ownVs base (encTup s.res x')).1, (ownVs base (encTup s.res x')).2.1) := by simp [Sig.out, hown]
          rw [ho]
          exact own_resOk h (encTup_plain _ _) hn h1 base
        · exact he.elim
      · exact he.elim
  cases e with
  | normal => exact fin hr
  | ret => exact fin hr
  | exit id => simp [κ0, Dec.run] at hr

/-- The contract. -/
theorem fn_sound {f : FuncId} {fn : Func} {c : Code} {s : Sig} {Γ : FuncId → Option Sig} {T : List (Nat × List Nat)} {Λ : Nat → Nat → List SV → List Blk → Option (Tup s.res)} (K : Nat)
    (hf : P.funcs[f]? = some fn) (hb : fn.body = some c) (hm : P.follows .mixedOrders = true) (hΓ : ∀ f s, Γ f = some s → GOk P f s) (hsz : fn.results.size ≤ 4) (hargs : s.args.length ≤ fn.ntmps)
    (h0 : ∀ L vs bs, Λ 0 L vs bs = none) (hcuts : ∀ p ∈ cuts P Γ fn.ntmps T c (κ0 P fn s.own s.res), CutOk Λ p) (hrun : ∀ x, (pxFn P Γ T fn c s.own s.res (encTup s.args x)).run (Λ K) = s.fn x) : SigOk P f s :=
  fun S w x r vs hfn hS hvs => fn_calls (av := encTup s.args x) K hf hb hm hΓ hsz h0 hcuts (by rw [encTup_length]; exact hargs) ((hrun x).trans hfn) hS hvs
end
end Go.Proofs.YtkdohmgacodhjaaPx
