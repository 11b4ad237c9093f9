/- Regions that draw their order; no condition. -/
import Derived.Test.YtkdohmgacodhjaaPx17
set_option linter.unusedVariables false
set_option linter.unusedSimpArgs false
namespace Go.Proofs.YtkdohmgacodhjaaPx
open Go.RowKit

abbrev FF := (Nat → Option SV) × (Nat → Option Blk)
abbrev Wr := Option (Nat × SV) × List (Nat × Option Blk)

def updW (f : Nat → Option SV) : Option (Nat × SV) → Nat → Option SV
  | some (d, v) => upd f d (some v)
  | none => f

def wrF (ws : Wr) (F : FF) : FF := (updW F.1 ws.1, applyW ws.2 F.2)
def wl (ws : Wr) : List Loc := (match ws.1 with | some (d, _) => [.tmp d] | none => []) ++ ws.2.map fun p => .blk p.1

structure Item where
  j : Nat
  rd : List Loc
  ws : Wr

theorem updW_other {f : Nat → Option SV} {x : Option (Nat × SV)} {t : Nat} (h : ∀ d v, x = some (d, v) → d ≠ t) : updW f x t = f t := by
  cases x with
  | none => rfl
  | some p => obtain ⟨d, v⟩ := p; exact upd_other _ _ fun e => h d v rfl e.symm

theorem applyW_other : ∀ {l : List (Nat × Option Blk)} {f : Nat → Option Blk} {i : Nat}, (∀ p ∈ l, p.1 ≠ i) → applyW l f i = f i
  | [], _, _, _ => rfl
  | (k, x) :: l, f, i, h => by
    rw [applyW, applyW_other (fun p hp => h p (by simp [hp])), upd_other _ _ fun e => h (k, x) (by simp) e.symm]

theorem applyW_congr : ∀ {l : List (Nat × Option Blk)} {f g : Nat → Option Blk} {i : Nat}, (f i = g i ∨ ∃ p ∈ l, p.1 = i) → applyW l f i = applyW l g i
  | [], f, g, i, h => by
    rcases h with h | ⟨p, hp, _⟩
    · exact h
    · simp at hp
  | (k, x) :: l, f, g, i, h => by
    refine applyW_congr (l := l) (f := upd f k x) (g := upd g k x) ?_
    by_cases hk : i = k
    · subst hk; exact .inl (by rw [upd_same, upd_same])
    · rcases h with h | ⟨p, hp, e⟩
      · exact .inl (by rw [upd_other _ _ hk, upd_other _ _ hk]; exact h)
      · rcases List.mem_cons.1 hp with rfl | hp
        · exact absurd e.symm hk
        · exact .inr ⟨p, hp, e⟩

def Apart (l l' : List Loc) : Prop := ∀ x, x ∈ l → x ∉ l'

theorem wrF_agree {ws : Wr} {F : FF} {l : List Loc} (h : Apart (wl ws) l) : Agree l (wrF ws F).1 F.1 (wrF ws F).2 F.2 := by
  refine ⟨fun t ht => ?_, fun i hi => ?_⟩
  · exact (updW_other fun d v e ed => h (.tmp t) (by simp [wl, e, ed]) ht).symm
  · exact (applyW_other fun p hp ep => h (.blk i) (by simp [wl]; exact .inr ⟨p.2, by rw [← ep]; exact hp⟩) hi).symm

theorem wrF_comm {ws ws' : Wr} {F : FF} (h : Apart (wl ws) (wl ws')) : wrF ws (wrF ws' F) = wrF ws' (wrF ws F) := by
  refine Prod.ext (funext fun t => ?_) (funext fun i => ?_)
  · show updW (updW F.1 ws'.1) ws.1 t = updW (updW F.1 ws.1) ws'.1 t
    cases h1 : ws.1 with
    | none => rfl
    | some p =>
      obtain ⟨d, v⟩ := p
      cases h2 : ws'.1 with
      | none => rfl
      | some q =>
        obtain ⟨d', v'⟩ := q
        have hne : d ≠ d' := fun e => h (.tmp d) (by simp [wl, h1]) (by simp [wl, h2, e])
        simp only [updW, upd]
        by_cases ht : t = d
        · subst ht; simp [hne]
        · simp [ht]
  · show applyW ws.2 (applyW ws'.2 F.2) i = applyW ws'.2 (applyW ws.2 F.2) i
    by_cases h1 : ∃ p ∈ ws.2, p.1 = i
    · have h2 : ∀ p ∈ ws'.2, p.1 ≠ i := fun p hp e => by
        obtain ⟨q, hq, eq⟩ := h1
        exact h (.blk i) (by simp [wl]; exact .inr ⟨q.2, by rw [← eq]; exact hq⟩) (by simp [wl]; exact .inr ⟨p.2, by rw [← e]; exact hp⟩)
      rw [applyW_other h2]
      exact applyW_congr (.inr h1)
    · have h1' : ∀ p ∈ ws.2, p.1 ≠ i := fun p hp e => h1 ⟨p, hp, e⟩
      rw [applyW_other h1']
      by_cases h2 : ∃ p ∈ ws'.2, p.1 = i
      · exact applyW_congr (.inr h2)
      · have h2' : ∀ p ∈ ws'.2, p.1 ≠ i := fun p hp e => h2 ⟨p, hp, e⟩
        rw [applyW_other h2', applyW_other h2', applyW_other h1']

section
variable {R : Type} {Λ : Nat → List SV → List Blk → Option R} {r : R} {S : Nat → Prop} {w0 : World} {n : Nat} {a : Act} {w : World} {P : Program} {Γ : FuncId → Option Sig} {ops : Array Oper} {nx : Nat}

def Wants (ops : Array Oper) (G : FF) (o : Oper) (b : Bool) : Prop :=
  match o.guard with
  | none => b = true
  | some (g, want) => ∃ t, guardTmp ops g = some t ∧ ((∃ c, G.1 t = some (.val (.one (.bool c))) ∧ b = (c == want)) ∨ (G.1 t = some (.val (.one .undef)) ∧ b = false))

def Does (P : Program) (Γ : FuncId → Option Sig) (n : Nat) (ops : Array Oper) (nx : Nat) (j : Nat) (ws : Wr) (G : FF) : Prop :=
  ∃ o, ops[j]? = some o ∧ dstOk n o.dst = true ∧ ((Wants ops G o true ∧ ∃ e, (aopT P Γ (nx + 32 * j) o).Ev G.1 G.2 e ∧ ws = (o.dst.map (·, e.dst), e.wr)) ∨ (Wants ops G o false ∧ ws = (o.dst.map (·, .val (.one .undef)), [])))

def Valid (P : Program) (Γ : FuncId → Option Sig) (n : Nat) (ops : Array Oper) (nx : Nat) (it : Item) (F : FF) : Prop :=
  ∀ G : FF, Agree it.rd F.1 G.1 F.2 G.2 → Does P Γ n ops nx it.j it.ws G

def Chain (P : Program) (Γ : FuncId → Option Sig) (n : Nat) (ops : Array Oper) (nx : Nat) : List Item → FF → FF → Prop
  | [], F, F' => F = F'
  | it :: l, F, F' => Valid P Γ n ops nx it F ∧ Chain P Γ n ops nx l (wrF it.ws F) F'

/-- Two operations that don't meddle with each other. -/
def Free (x y : Item) : Prop := Apart (wl x.ws) (y.rd ++ wl y.ws) ∧ Apart (wl y.ws) x.rd

theorem Agree.symm {l : List Loc} {fE fE' : Nat → Option SV} {fH fH' : Nat → Option Blk} (h : Agree l fE fE' fH fH') : Agree l fE' fE fH' fH := ⟨fun t q => (h.1 t q).symm, fun i q => (h.2 i q).symm⟩
theorem Agree.trans {l : List Loc} {f1 f2 f3 : Nat → Option SV} {g1 g2 g3 : Nat → Option Blk} (h : Agree l f1 f2 g1 g2) (h' : Agree l f2 f3 g2 g3) : Agree l f1 f3 g1 g3 := ⟨fun t q => (h'.1 t q).trans (h.1 t q), fun i q => (h'.2 i q).trans (h.2 i q)⟩

theorem chain_swap {x y : Item} {l : List Item} {F F' : FF} (hf : Free x y) (h : Chain P Γ n ops nx (x :: y :: l) F F') : Chain P Γ n ops nx (y :: x :: l) F F' := by
  obtain ⟨hx, hy, hl⟩ := h
  have h1 : Apart (wl x.ws) y.rd := fun z a b => hf.1 z a (by simp [b])
  have h2 : Apart (wl x.ws) (wl y.ws) := fun z a b => hf.1 z a (by simp [b])
  refine ⟨fun G hG => hy G ((wrF_agree h1).trans hG), fun G hG => hx G (((wrF_agree hf.2).symm).trans hG |> fun q => ?_), ?_⟩
  · exact ((wrF_agree (F := F) hf.2).symm).trans hG
  · rw [wrF_comm h2]; exact hl

theorem chain_bubble : ∀ {p : List Item} {y : Item} {l : List Item} {F F' : FF}, (∀ x ∈ p, Free x y) → Chain P Γ n ops nx (p ++ y :: l) F F' → Chain P Γ n ops nx (y :: (p ++ l)) F F'
  | [], _, _, _, _, _, h => h
  | x :: p, y, l, F, F', hp, h => by
    obtain ⟨hx, h⟩ := h
    have := chain_bubble (p := p) (fun z hz => hp z (by simp [hz])) h
    exact chain_swap (hp x (by simp)) ⟨hx, this⟩

def Item.fp (it : Item) : FP := ⟨it.j, it.rd, wl it.ws⟩

theorem wrLocs_wl (d : Option Nat) (v : SV) (wr : List (Nat × Option Blk)) : wrLocs d wr = wl (d.map (·, v), wr) := by
  cases d <;> rfl

theorem wrF_aft (st : St) (d : Option Nat) (e : Eff) : wrF (d.map (·, e.dst), e.wr) (st.fE, st.fH) = ((st.aft d e).fE, (st.aft d e).fH) := by
  refine Prod.ext ?_ (aft_fH st d e).symm
  rw [aft_fE]
  cases d <;> rfl
theorem wrF_skip (st : St) (d : Option Nat) : wrF (d.map (·, .val (.one .undef)), []) (st.fE, st.fH) = ((st.skip d).fE, (st.skip d).fH) := by
  refine Prod.ext ?_ rfl
  show updW st.fE (d.map _) = (St.mk (putE d _ st.E) st.H st.nx).fE
  rw [putE_fE]
  cases d <;> rfl

/-- What the evaluator tells of a list of operations. -/
theorem opsF_chain {k : St → List FP → Dec R} : ∀ (l : List Oper) (j : Nat) (st : St) (fs : List FP), (∀ i o, l[i]? = some o → ops[j + i]? = some o) → (pxOpsF P Γ n ops l j st fs k).run Λ = some r →
    ∃ (its : List Item) (st' : St), Chain P Γ n ops st.nx its (st.fE, st.fH) (st'.fE, st'.fH) ∧ its.map (·.j) = List.range' j l.length ∧ st'.nx = st.nx ∧ (k st' ((its.map Item.fp).reverse ++ fs)).run Λ = some r
  | [], j, st, fs, _, hr => ⟨[], st, rfl, rfl, rfl, hr⟩
  | o :: l, j, st, fs, hops, hr => by
    have ho : ops[j]? = some o := hops 0 o rfl
    have hops' : ∀ i o, l[i]? = some o → ops[j + 1 + i]? = some o := fun i o e => by
      rw [show j + 1 + i = j + (i + 1) by omega]; exact hops (i + 1) o (by simpa using e)
    have glue : ∀ (it : Item) (st0 : St), it.j = j → st0.nx = st.nx → Valid P Γ n ops st.nx it (st.fE, st.fH) → wrF it.ws (st.fE, st.fH) = (st0.fE, st0.fH) → (pxOpsF P Γ n ops l (j + 1) st0 (it.fp :: fs) k).run Λ = some r →
        ∃ (its : List Item) (st' : St), Chain P Γ n ops st.nx its (st.fE, st.fH) (st'.fE, st'.fH) ∧ its.map (·.j) = List.range' j (o :: l).length ∧ st'.nx = st.nx ∧ (k st' ((its.map Item.fp).reverse ++ fs)).run Λ = some r := by
      intro it st0 hj hn hv hw hr
      obtain ⟨its, st', h1, h2, h3, h4⟩ := opsF_chain l (j + 1) st0 _ hops' hr
      refine ⟨it :: its, st', ⟨hv, by rw [hw]; rw [← hn]; exact h1⟩, by rw [List.map_cons, hj, h2, List.length_cons, List.range'_succ], h3.trans hn, ?_⟩
      simpa using h4
    simp only [pxOpsF] at hr
    split at hr
    · simp [Dec.run] at hr
    · rename_i hd
      split at hr
      · rename_i hg
        obtain ⟨e, rd, he, hr⟩ := RM.decF_run hr
        refine glue ⟨j, rd, (o.dst.map (·, e.dst), e.wr)⟩ (st.aft o.dst e) rfl rfl (fun G hG => ⟨o, ho, hd, .inl ⟨by simp [Wants, hg], e, he.ev hG, rfl⟩⟩) (wrF_aft st o.dst e) ?_
        simp only [Item.fp, ← wrLocs_wl]
        exact hr
      · rename_i g want hg
        split at hr
        · simp [Dec.run] at hr
        · rename_i t ht
          split at hr
          · rename_i b hb
            have go : ∀ c, b = c → (match c == want with
              | true => (aopT P Γ (st.nx + 32 * j) o).decF (st.fix t c) fun e rd => pxOpsF P Γ n ops l (j + 1) ((st.fix t c).aft o.dst e) (⟨j, .tmp t :: rd, wrLocs o.dst e.wr⟩ :: fs) k
              | false => pxOpsF P Γ n ops l (j + 1) ((st.fix t c).skip o.dst) (⟨j, [.tmp t], wrLocs o.dst []⟩ :: fs) k : Dec R).run Λ = some r →
              ∃ (its : List Item) (st' : St), Chain P Γ n ops st.nx its (st.fE, st.fH) (st'.fE, st'.fH) ∧ its.map (·.j) = List.range' j (o :: l).length ∧ st'.nx = st.nx ∧ (k st' ((its.map Item.fp).reverse ++ fs)).run Λ = some r := by
              intro c hc hr
              subst hc
              have hfix : (st.fix t b).fE = st.fE := fix_fE hb
              have hfixH : (st.fix t b).fH = st.fH := rfl
              cases hbw : (b == want) with
              | true =>
                rw [hbw] at hr
                obtain ⟨e, rd, he, hr⟩ := RM.decF_run hr
                rw [hfix, hfixH] at he
                refine glue ⟨j, .tmp t :: rd, (o.dst.map (·, e.dst), e.wr)⟩ ((st.fix t b).aft o.dst e) rfl rfl (fun G hG => ⟨o, ho, hd, .inl ⟨?_, e, he.ev ⟨fun t q => hG.1 t (by simp [q]), fun i q => hG.2 i (by simp [q])⟩, rfl⟩⟩) ?_ ?_
                · simp only [Wants, hg]
                  exact ⟨t, ht, .inl ⟨b, by rw [hG.1 t (by simp)]; exact hb, hbw.symm⟩⟩
                · have := wrF_aft (st.fix t b) o.dst e
                  rw [hfix, hfixH] at this
                  exact this
                · simp only [Item.fp, ← wrLocs_wl]
                  exact hr
              | false =>
                rw [hbw] at hr
                refine glue ⟨j, [.tmp t], (o.dst.map (·, .val (.one .undef)), [])⟩ ((st.fix t b).skip o.dst) rfl rfl (fun G hG => ⟨o, ho, hd, .inr ⟨?_, rfl⟩⟩) ?_ ?_
                · simp only [Wants, hg]
                  exact ⟨t, ht, .inl ⟨b, by rw [hG.1 t (by simp)]; exact hb, hbw.symm⟩⟩
                · have := wrF_skip (st.fix t b) o.dst
                  rw [hfix, hfixH] at this
                  exact this
                · simp only [Item.fp, ← wrLocs_wl]
                  exact hr
            cases b with
            | true => exact go true rfl hr
            | false => exact go false rfl hr
          · rename_i hb
            refine glue ⟨j, [.tmp t], (o.dst.map (·, .val (.one .undef)), [])⟩ (st.skip o.dst) rfl rfl (fun G hG => ⟨o, ho, hd, .inr ⟨?_, rfl⟩⟩) (wrF_skip st o.dst) ?_
            · unfold Wants
              rw [hg]
              exact ⟨t, ht, .inr ⟨by rw [hG.1 t (by simp)]; exact hb, rfl⟩⟩
            · simp only [Item.fp, ← wrLocs_wl]
              exact hr
          · simp [Dec.run] at hr
end
end Go.Proofs.YtkdohmgacodhjaaPx
