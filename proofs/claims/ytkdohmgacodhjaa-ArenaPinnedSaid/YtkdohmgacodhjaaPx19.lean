/- Regions that draw their order: all orders end alike; no condition. -/
import Derived.Test.YtkdohmgacodhjaaPx18
set_option linter.unusedVariables false
set_option linter.unusedSimpArgs false
namespace Go.Proofs.YtkdohmgacodhjaaPx
open Go.RowKit

def Loc.eqB : Loc → Loc → Bool
  | .tmp a, .tmp b => Nat.beq a b
  | .blk a, .blk b => Nat.beq a b
  | _, _ => false

theorem Loc.eqB_self (x : Loc) : x.eqB x = true := by cases x <;> exact Nat.beq_refl _

def locIn (x : Loc) : List Loc → Bool
  | [] => false
  | y :: l => match x.eqB y with | true => true | false => locIn x l

theorem locIn_of_mem {x : Loc} : ∀ {l : List Loc}, x ∈ l → locIn x l = true
  | y :: l, h => by
    rcases List.mem_cons.1 h with rfl | h
    · simp [locIn, Loc.eqB_self]
    · simp only [locIn]; split
      · rfl
      · exact locIn_of_mem h

def apartB : List Loc → List Loc → Bool
  | [], _ => true
  | x :: l, l' => match locIn x l' with | true => false | false => apartB l l'

theorem apartB_of : ∀ {l l' : List Loc}, apartB l l' = true → Apart l l'
  | [], _, _ => fun x hx => by simp at hx
  | y :: l, l', h => by
    intro x hx hx'
    simp only [apartB] at h
    split at h
    · cases h
    · rename_i hn
      rcases List.mem_cons.1 hx with rfl | hx
      · rw [locIn_of_mem hx'] at hn; cases hn
      · exact apartB_of h x hx hx'

def freeB (x y : FP) : Bool := match apartB x.wr y.rd with
  | true => (match apartB x.wr y.wr with | true => apartB y.wr x.rd | false => false)
  | false => false

def edgeL (t : Nat) : List Edge → Bool
  | [] => false
  | e :: l => match Nat.beq e.on t with
    | true => (match Region.binds .any e with | true => true | false => edgeL t l)
    | false => edgeL t l
def edgeB (ops : Array Oper) (y x : Nat) : Bool := match ops[y]? with | some o => edgeL x o.after.toList | none => false

def pairsB (ops : Array Oper) (y : FP) : List FP → Bool
  | [] => true
  | x :: l => match edgeB ops y.j x.j with
    | true => pairsB ops y l
    | false => (match freeB x y with | true => pairsB ops y l | false => false)
def fpOk (ops : Array Oper) : List FP → Bool
  | [] => true
  | y :: l => match pairsB ops y l with | true => fpOk ops l | false => false

def backL (j : Nat) : List Edge → Bool
  | [] => true
  | e :: l => match Region.binds .any e with
    | true => (match Nat.ble (e.on + 1) j with | true => backL j l | false => false)
    | false => backL j l
def backOps : List Oper → Nat → Bool
  | [], _ => true
  | o :: l, j => match backL j o.after.toList with | true => backOps l (j + 1) | false => false

theorem edgeL_spec {t : Nat} : ∀ {l : List Edge}, edgeL t l = true → ∃ e ∈ l, Region.binds .any e = true ∧ e.on = t
  | e :: l, h => by
    simp only [edgeL] at h
    split at h
    · rename_i h1
      split at h
      · rename_i h2; exact ⟨e, by simp, h2, Nat.eq_of_beq_eq_true h1⟩
      · obtain ⟨e', h1, h2⟩ := edgeL_spec h; exact ⟨e', by simp [h1], h2⟩
    · obtain ⟨e', h1, h2⟩ := edgeL_spec h; exact ⟨e', by simp [h1], h2⟩

theorem backL_spec {j : Nat} : ∀ {l : List Edge}, backL j l = true → ∀ e ∈ l, Region.binds .any e = true → e.on < j
  | e :: l, h, e', he, hb => by
    simp only [backL] at h
    split at h
    · split at h
      · rename_i h1 h2
        rcases List.mem_cons.1 he with rfl | he
        · exact Nat.le_of_ble_eq_true h2
        · exact backL_spec h e' he hb
      · cases h
    · rename_i h1
      rcases List.mem_cons.1 he with rfl | he
      · rw [h1] at hb; cases hb
      · exact backL_spec h e' he hb

theorem backOps_spec : ∀ {l : List Oper} {j : Nat}, backOps l j = true → ∀ i o, l[i]? = some o → ∀ e ∈ o.after, Region.binds .any e = true → e.on < j + i
  | [], _, _, i, o, h => by simp at h
  | p :: l, j, hb, i, o, h => by
    simp only [backOps] at hb
    split at hb
    · rename_i h1
      cases i with
      | zero =>
        simp at h; subst h
        exact fun e he hb => backL_spec h1 e (by simpa using he) hb
      | succ i =>
        have := backOps_spec hb i o (by simpa using h)
        intro e he hbe
        have := this e he hbe
        omega
    · cases hb

section
variable {R : Type} {Λ : Nat → List SV → List Blk → Option R} {r : R} {S : Nat → Prop} {w0 : World} {n : Nat} {a : Act} {w : World} {P : Program} {Γ : FuncId → Option Sig} {ops : Array Oper} {nx : Nat}

def Edged (ops : Array Oper) (y x : Item) : Prop := ∃ o, ops[y.j]? = some o ∧ ∃ e ∈ o.after, Region.binds .any e = true ∧ e.on = x.j

theorem pairsB_spec {y : Item} : ∀ {l : List Item}, pairsB ops y.fp (l.map Item.fp) = true → ∀ x ∈ l, Edged ops y x ∨ Free x y
  | z :: l, h, x, hx => by
    simp only [List.map_cons, pairsB] at h
    have key : pairsB ops y.fp (l.map Item.fp) = true ∧ (Edged ops y z ∨ Free z y) := by
      split at h
      · rename_i he
        refine ⟨h, .inl ?_⟩
        unfold edgeB at he
        split at he
        · rename_i o ho
          obtain ⟨e, h1, h2, h3⟩ := edgeL_spec he
          exact ⟨o, ho, e, by simpa using h1, h2, h3⟩
        · cases he
      · split at h
        · rename_i hf
          refine ⟨h, .inr ?_⟩
          unfold freeB at hf
          split at hf
          · rename_i h1
            split at hf
            · rename_i h2
              exact ⟨fun t ht hm => by
                rcases List.mem_append.1 hm with hm | hm
                · exact apartB_of h1 t ht hm
                · exact apartB_of h2 t ht hm, apartB_of hf⟩
            · cases hf
          · cases hf
        · cases h
    rcases List.mem_cons.1 hx with rfl | hx
    · exact key.2
    · exact pairsB_spec key.1 x hx

theorem fpOk_spec : ∀ {l : List Item}, fpOk ops (l.map Item.fp) = true → l.Pairwise fun y x => Edged ops y x ∨ Free x y
  | [], _ => .nil
  | y :: l, h => by
    simp only [List.map_cons, fpOk] at h
    split at h
    · rename_i h1
      exact .cons (pairsB_spec h1) (fpOk_spec h)
    · cases h

def frOf (nx m : Nat) (its : List Item) (i : Nat) : Prop := nx + 32 * m ≤ i ∨ ∃ it ∈ its, nx + 32 * it.j ≤ i ∧ i < nx + 32 * it.j + 32

theorem updW_map (f : Nat → Option SV) (d : Option Nat) (v : SV) : updW f (d.map (·, v)) = updO f d v := by cases d <;> rfl

theorem wants_spec {fr : Nat → Prop} {F : FF} {ρ : Nat → Option Value} {o : Oper} {b : Bool} (h : Holds S w0 n fr F.1 F.2 ρ a w) (hw : Wants ops F o b) : Region.wanted o (yielded ops a.tmps) = b := by
  unfold Wants at hw
  split at hw
  · rename_i hg
    simp [Region.wanted, hg, hw]
  · rename_i g want hg
    obtain ⟨t, ht, hw⟩ := hw
    obtain ⟨hy1, hy2⟩ := yielded_of (ops := ops) h ht
    rcases hw with ⟨c, hc, rfl⟩ | ⟨hc, rfl⟩
    · simp only [Region.wanted, hg, hy1 c hc]
      cases c <;> cases want <;> rfl
    · simp [Region.wanted, hg, hy2 hc]

theorem does_sound (hΓ : ∀ f s, Γ f = some s → GOk P f s) {fr fr' : Nat → Prop} {F : FF} {ρ : Nat → Option Value} {j : Nat} {ws : Wr} (h : Holds S w0 n fr F.1 F.2 ρ a w) (hid : ∀ i, nx + 32 * j ≤ i → i < nx + 32 * j + 32 → fr i) (hd : Does P Γ n ops nx j ws F)
    (hfr : ∀ i, fr' i → lessF fr (nx + 32 * j) i) {K : Act → World → Prop} {Q : Exit → Act → World → Prop}
    (k : ∀ a' w', (∃ ρ', Holds S w0 n fr' (wrF ws F).1 (wrF ws F).2 ρ' a' w') → K a' w') : wpOp P ops Q j K a w := by
  obtain ⟨o, ho, hdst, hd⟩ := hd
  unfold wpOp
  rw [ho]
  dsimp only
  rcases hd with ⟨hw, e, he, rfl⟩ | ⟨hw, rfl⟩
  · rw [wants_spec h hw, if_pos rfl]
    refine .inl (aopT_sound h hΓ hid he fun v w' hA => ?_)
    obtain ⟨ρ', hH, hden⟩ := hA
    refine k _ _ ⟨ρ', ?_⟩
    simp only [wrF, updW_map]
    exact (hH.put_opt o.dst hdst e.dst v hden).fewer hfr
  · rw [wants_spec h hw, if_neg (by simp)]
    refine k _ _ ⟨ρ, ?_⟩
    simp only [wrF, updW_map]
    exact (h.fewer fun i q => (hfr i q).1).put_opt o.dst hdst (.val (.one .undef)) undef undef_den

theorem Agree.refl (l : List Loc) (fE : Nat → Option SV) (fH : Nat → Option Blk) : Agree l fE fE fH fH := ⟨fun _ _ => rfl, fun _ _ => rfl⟩

theorem unl_lt {listed : Array Bool} {j : Nat} (h : listed.getD j true = false) : j < listed.size ∧ listed.getD j false = false := by
  unfold Array.getD at h ⊢
  split at h
  · rename_i hlt; simp only [hlt, dite_true]; exact ⟨trivial, h⟩
  · cases h

theorem any_sound (hΓ : ∀ f s, Γ f = some s → GOk P f s) (hback : backOps ops.toList 0 = true) {Q : Exit → Act → World → Prop} : ∀ (fuel : Nat) (its : List Item) (listed : Array Bool) (a : Act) (w : World) (F F' : FF),
    Chain P Γ n ops nx its F F' → its.Pairwise (fun x y => Edged ops y x ∨ Free x y) → (∀ j, listed.getD j true = false ↔ ∃ it ∈ its, it.j = j) → listed.size = ops.size → its.Pairwise (fun x y => x.j < y.j) → its.length ≤ fuel →
    (∃ ρ, Holds S w0 n (frOf nx ops.size its) F.1 F.2 ρ a w) → (∀ a w, (∃ ρ, Holds S w0 n (fun i => nx + 32 * ops.size ≤ i) F'.1 F'.2 ρ a w) → Q .normal a w) → wpAny P .any ops Q fuel listed a w := by
  intro fuel its
  have noReady : ∀ (its : List Item) (listed : Array Bool), (∀ j, listed.getD j true = false ↔ ∃ it ∈ its, it.j = j) → listed.size = ops.size → its.Pairwise (fun x y => x.j < y.j) → Region.ready .any ops listed = [] → its = [] := by
    intro its listed hl hs hsort hr
    cases its with
    | nil => rfl
    | cons it l =>
      exfalso
      have hun : listed.getD it.j true = false := (hl it.j).2 ⟨it, by simp, rfl⟩
      obtain ⟨hlt, _⟩ := unl_lt hun
      rw [hs] at hlt
      have : it.j ∈ Region.ready .any ops listed := mem_ready.2 ⟨hun, ops[it.j], by simp [hlt], fun e he hb => by
        have hlt' : e.on < it.j := by
          have := backOps_spec hback it.j ops[it.j] (by simp [hlt]) e he hb
          omega
        have hno : listed.getD e.on true ≠ false := fun q => by
          obtain ⟨x, hx, ex⟩ := (hl e.on).1 q
          rcases List.mem_cons.1 hx with rfl | hx
          · omega
          · have := (List.pairwise_cons.1 hsort).1 x hx
            omega
        have hlt2 : e.on < listed.size := by omega
        unfold Array.getD at hno ⊢
        simp only [hlt2, dite_true] at hno ⊢
        simpa using hno⟩
      rw [hr] at this
      cases this
  induction fuel generalizing its with
  | zero =>
    intro listed a w F F' hc hp hl hs hsort hfu hH hQ
    have : its = [] := List.eq_nil_of_length_eq_zero (by omega)
    subst this
    obtain rfl : F = F' := hc
    refine ⟨?_, hQ a w ?_⟩
    · refine List.eq_nil_iff_forall_not_mem.2 fun j hj => ?_
      have := (hl j).1 (mem_ready.1 hj).1
      simp at this
    · obtain ⟨ρ, h⟩ := hH
      exact ⟨ρ, h.fewer fun i q => .inl q⟩
  | succ fuel ih =>
    intro listed a w F F' hc hp hl hs hsort hfu hH hQ
    refine ⟨fun hr => ?_, fun j hj => ?_⟩
    · have := noReady its listed hl hs hsort hr
      subst this
      obtain rfl : F = F' := hc
      refine hQ a w ?_
      obtain ⟨ρ, h⟩ := hH
      exact ⟨ρ, h.fewer fun i q => .inl q⟩
    · obtain ⟨hun, o, ho, hall⟩ := mem_ready.1 hj
      obtain ⟨it, hit, rfl⟩ := (hl j).1 hun
      obtain ⟨p, l, rfl⟩ := List.append_of_mem hit
      have hfree : ∀ x ∈ p, Free x it := by
        intro x hx
        have h1 := (List.pairwise_append.1 hp).2.2 x hx it (by simp)
        rcases h1 with ⟨o', ho', e, he, hb, hon⟩ | h1
        · rw [ho] at ho'
          obtain rfl := Option.some.inj ho'
          have h2 := hall e he hb
          have h3 := (unl_lt ((hl x.j).2 ⟨x, by simp [hx], rfl⟩)).2
          rw [hon, h3] at h2
          cases h2
        · exact h1
      obtain ⟨hv, hc'⟩ := chain_bubble hfree hc
      have hsub : (p ++ l).Sublist (p ++ it :: l) := (List.sublist_cons_self it l).append_left p
      have hsplit := List.pairwise_append.1 hsort
      have hne : ∀ x ∈ p ++ l, x.j ≠ it.j := by
        intro x hx
        rcases List.mem_append.1 hx with hx | hx
        · have := hsplit.2.2 x hx it (by simp); omega
        · have := (List.pairwise_cons.1 hsplit.2.1).1 x hx; omega
      have hlt : it.j < ops.size := by rw [← hs]; exact (unl_lt hun).1
      obtain ⟨ρ, h⟩ := hH
      refine does_sound hΓ (fr' := frOf nx ops.size (p ++ l)) h (fun i h1 h2 => .inr ⟨it, by simp, h1, h2⟩) (hv F (Agree.refl _ _ _)) ?_ ?_
      · intro i q
        simp only [lessF]
        rcases q with q | ⟨x, hx, h1, h2⟩
        · exact ⟨.inl q, by omega⟩
        · have := hne x hx
          exact ⟨.inr ⟨x, hsub.subset hx, h1, h2⟩, by omega⟩
      · intro a' w' h'
        refine ih (p ++ l) _ a' w' _ F' hc' (hp.sublist hsub) ?_ (by simpa using hs) (hsort.sublist hsub) (by simp at hfu ⊢; omega) h' hQ
        intro k
        by_cases hk : k = it.j
        · subst hk
          constructor
          · intro q
            have hlt2 : it.j < listed.size := by omega
            simp [Array.getD, hlt2] at q
          · rintro ⟨x, hx, ex⟩
            exact absurd ex (hne x hx)
        · rw [getD_set_ne true (Ne.symm hk), hl k]
          constructor
          · rintro ⟨x, hx, ex⟩
            refine ⟨x, ?_, ex⟩
            simp only [List.mem_append, List.mem_cons] at hx ⊢
            rcases hx with hx | rfl | hx
            · exact .inl hx
            · exact absurd ex.symm hk
            · exact .inr hx
          · rintro ⟨x, hx, ex⟩
            exact ⟨x, hsub.subset hx, ex⟩

/-- A region that draws its order. -/
def pxAny (P : Program) (Γ : FuncId → Option Sig) (n : Nat) (ops : Array Oper) (st : St) (k : St → Dec R) : Dec R := match backOps ops.toList 0 with
  | true => pxOpsF P Γ n ops ops.toList 0 st [] fun st' fs => match fpOk ops fs with
    | true => k st'
    | false => .fail
  | false => .fail

theorem pxAny_sound (hm : P.follows .mixedOrders = true) (hΓ : ∀ f s, Γ f = some s → GOk P f s) {Q : Exit → Act → World → Prop} {k : St → Dec R} {st : St} {id : Nat} (hr : (pxAny P Γ n ops st k).run Λ = some r) (h : HoldsSt S w0 n st a w)
    (hk : ∀ st' a' w', (k st').run Λ = some r → st'.nx = st.nx → HoldsAt S w0 n st' ops.size a' w' → Q .normal a' w') : (Code.region id ops true).wp P Q a w := by
  unfold pxAny at hr
  split at hr
  · rename_i hback
    obtain ⟨its, st', hc, hj, hn, hr⟩ := opsF_chain ops.toList 0 st [] (fun i o e => by simpa using e) hr
    rw [List.append_nil] at hr
    split at hr
    · rename_i hfp
      have hsort : its.Pairwise (fun x y => x.j < y.j) := by
        have : (its.map (·.j)).Pairwise (· < ·) := by rw [hj]; exact List.pairwise_lt_range' 
        exact List.pairwise_map.1 this
      have hp : its.Pairwise (fun x y => Edged ops y x ∨ Free x y) := by
        rw [← List.map_reverse] at hfp
        exact List.pairwise_reverse.1 (fpOk_spec hfp)
      refine wp_region_any hm (any_sound (S := S) (w0 := w0) (n := n) (nx := st.nx) hΓ hback ops.size its _ a _ (st.fE, st.fH) (st'.fE, st'.fH) hc hp ?_ (by simp) hsort ?_ ?_ ?_)
      · intro j
        have hmem : (∃ it ∈ its, it.j = j) ↔ j ∈ its.map (·.j) := by simp
        rw [hmem, hj]
        simp only [List.mem_range', Array.length_toList]
        by_cases hlt : j < ops.size
        · simp [Array.getD, hlt]
        · simp [Array.getD, hlt]
      · have : its.length = ops.size := by rw [← List.length_map (f := (·.j)), hj]; simp
        omega
      · obtain ⟨ρ, h⟩ := h
        refine ⟨ρ, (h.world ?_).fewer ?_⟩
        · exact below_drew
        · intro i q
          rcases q with q | ⟨_, _, q, _⟩ <;> omega
      · intro a' w' hH
        refine hk st' a' w' hr hn ?_
        unfold HoldsAt
        rw [hn]; exact hH
    · simp [Dec.run] at hr
  · simp [Dec.run] at hr
end
end Go.Proofs.YtkdohmgacodhjaaPx
