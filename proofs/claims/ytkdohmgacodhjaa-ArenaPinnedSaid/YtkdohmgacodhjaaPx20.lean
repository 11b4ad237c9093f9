/- Cuts: the state is brought into a shape that depends on nothing but what is carried over; no condition. -/
import Derived.Test.YtkdohmgacodhjaaPx19
set_option linter.unusedVariables false
set_option linter.unusedSimpArgs false
namespace Go.Proofs.YtkdohmgacodhjaaPx
open Go.RowKit

def idx : List Nat → Nat → Option Nat
  | [], _ => none
  | j :: m, i => match Nat.beq j i with
    | true => some 0
    | false => (match idx m i with | some k => some (k + 1) | none => none)

theorem idx_get : ∀ {m : List Nat} {i k : Nat}, idx m i = some k → m[k]? = some i
  | j :: m, i, k, h => by
    simp only [idx] at h
    split at h
    · rename_i e
      simp only [Option.some.injEq] at h
      subst h
      simp [Nat.eq_of_beq_eq_true e]
    · split at h
      · rename_i k' hk
        simp only [Option.some.injEq] at h
        subst h
        simpa using idx_get hk
      · cases h

def renCaps (m : List Nat) : List (Nat × Nat) → Option (List (Nat × Nat))
  | [] => some []
  | (i, o) :: l => match idx m i, renCaps m l with
    | some i', some l' => some ((i', o) :: l')
    | _, _ => none

def Sc.ren (m : List Nat) : Sc → Option Sc
  | .ptr i o => match idx m i with | some i' => some (.ptr i' o) | none => none
  | .rp i t k j => match idx m i with | some i' => some (.rp i' t k j) | none => none
  | .row i => match idx m i with | some i' => some (.row i') | none => none
  | .bsl i o n => match idx m i with | some i' => some (.bsl i' o n) | none => none
  | .vw i t l h => match idx m i with | some i' => some (.vw i' t l h) | none => none
  | .func f caps => match renCaps m caps with | some c => some (.func f c) | none => none
  | s => some s

def renL (m : List Nat) : List Sc → Option (List Sc)
  | [] => some []
  | s :: l => match s.ren m with
    | some s' => (match renL m l with | some l' => some (s' :: l') | none => none)
    | none => none

def V1.ren (m : List Nat) : V1 → Option V1
  | .one s => match s.ren m with | some s' => some (.one s') | none => none
  | .agg cs => match renL m cs with | some c => some (.agg c) | none => none

def renVs (m : List Nat) : List V1 → Option (List V1)
  | [] => some []
  | s :: l => match s.ren m with
    | some s' => (match renVs m l with | some l' => some (s' :: l') | none => none)
    | none => none

def SV.ren (m : List Nat) : SV → Option SV
  | .val x => match x.ren m with | some y => some (.val y) | none => none
  | .tup xs => match renVs m xs with | some y => some (.tup y) | none => none

def Blk.ren (m : List Nat) : Blk → Option Blk
  | .box cs => match renL m cs with | some c => some (.box c) | none => none
  | .row t xs => some (.row t xs)

section
variable {A A' : Nat → Prop} {w : World} {ρ : Nat → Option Value} {m : List Nat}

def ρm (m : List Nat) (ρ : Nat → Option Value) : Nat → Option Value := fun i => (m[i]?).bind ρ

theorem ρm_idx {i k : Nat} (h : idx m i = some k) : ρm m ρ k = ρ i := by simp [ρm, idx_get h]

theorem renCaps_get : ∀ {l l' : List (Nat × Nat)}, renCaps m l = some l' → l'.length = l.length ∧ ∀ (k : Nat) (io : Nat × Nat), l'[k]? = some io → ∃ i, l[k]? = some (i, io.2) ∧ idx m i = some io.1
  | [], l', h => by simp [renCaps] at h; subst h; simp
  | (i, o) :: l, l', h => by
    simp only [renCaps] at h
    split at h
    · rename_i i' t h1 h2
      simp only [Option.some.injEq] at h
      subst h
      obtain ⟨h3, h4⟩ := renCaps_get h2
      refine ⟨by simp [h3], fun k io e => ?_⟩
      cases k with
      | zero => simp at e; subst e; exact ⟨i, rfl, h1⟩
      | succ k => exact h4 k io (by simpa using e)
    · cases h

theorem Sc.Den.ren (hA : ∀ b, A b → A' b) {s s' : Sc} {v : Value} (hs : s.ren m = some s') (h : s.Den A w ρ v) : s'.Den A' w (ρm m ρ) v := by
  have st : Step A w A' w := fun b o v ha hv => ⟨hA b ha, hv⟩
  cases s with
  | ptr i o =>
    simp only [Sc.ren] at hs
    split at hs
    · rename_i k hk
      obtain rfl := Option.some.inj hs
      obtain ⟨b, h1, h2⟩ := h
      exact ⟨b, by rw [ρm_idx hk]; exact h1, h2⟩
    · cases hs
  | rp i t q j =>
    simp only [Sc.ren] at hs
    split at hs
    · rename_i k hk
      obtain rfl := Option.some.inj hs
      obtain ⟨b, o, n, c, h1, h2, h3⟩ := h
      exact ⟨b, o, n, c, by rw [ρm_idx hk]; exact h1, h2, h3⟩
    · cases hs
  | row i =>
    simp only [Sc.ren] at hs
    split at hs
    · rename_i k hk
      obtain rfl := Option.some.inj hs
      show ρm m ρ k = some v
      rw [ρm_idx hk]; exact h
    · cases hs
  | bsl i o q =>
    simp only [Sc.ren] at hs
    split at hs
    · rename_i k hk
      obtain rfl := Option.some.inj hs
      obtain ⟨b, h1, h2⟩ := h
      exact ⟨b, by rw [ρm_idx hk]; exact h1, h2⟩
    · cases hs
  | vw i t l r =>
    simp only [Sc.ren] at hs
    split at hs
    · rename_i k hk
      obtain rfl := Option.some.inj hs
      obtain ⟨p, n, c, h1, h2⟩ := h
      exact ⟨p, n, c, by rw [ρm_idx hk]; exact h1, h2⟩
    · cases hs
  | func f caps =>
    simp only [Sc.ren] at hs
    split at hs
    · rename_i c hc
      obtain rfl := Option.some.inj hs
      obtain ⟨vs, h1, h2, h3⟩ := h
      obtain ⟨h4, h5⟩ := renCaps_get hc
      refine ⟨vs, h1, by rw [h4]; exact h2, fun k io e => ?_⟩
      obtain ⟨i, e1, e2⟩ := h5 k io e
      obtain ⟨b, h6, h7⟩ := h3 k _ e1
      exact ⟨b, by rw [ρm_idx e2]; exact h6, h7⟩
    · cases hs
  | int k n => obtain rfl := Option.some.inj hs; exact h
  | bool b => obtain rfl := Option.some.inj hs; exact h
  | nil => obtain rfl := Option.some.inj hs; exact h
  | undef => obtain rfl := Option.some.inj hs; exact h
  | sl t xs => obtain rfl := Option.some.inj hs; exact RI.step st h
  | clo f t x =>
    obtain rfl := Option.some.inj hs
    obtain ⟨vs, h1, h2, h3⟩ := h
    exact ⟨vs, h1, h2, DenC.step st t x _ _ (fun _ _ _ e => e) h3⟩
  | sln nn t xs => obtain rfl := Option.some.inj hs; exact ⟨RI.step st h.1, h.2⟩
  | ep t x j =>
    obtain rfl := Option.some.inj hs
    obtain ⟨b, o, h1, h2, h3⟩ := h
    exact ⟨b, o, h1, hA b h2, DenC.step st t x _ _ (fun _ _ _ e => e) h3⟩

theorem DenL.ren (hA : ∀ b, A b → A' b) : ∀ {l l' : List Sc} {vs : List Value}, renL m l = some l' → DenL A w ρ l vs → DenL A' w (ρm m ρ) l' vs
  | [], l', [], hl, h => by obtain rfl := Option.some.inj hl; trivial
  | s :: l, l', v :: vs, hl, h => by
    simp only [renL] at hl
    split at hl
    · rename_i s' hs
      split at hl
      · rename_i r hr
        obtain rfl := Option.some.inj hl
        exact ⟨Sc.Den.ren hA hs h.1, DenL.ren hA hr h.2⟩
      · cases hl
    · cases hl
  | [], _, _ :: _, _, h => h.elim
  | _ :: _, _, [], _, h => h.elim

theorem V1.Den.ren (hA : ∀ b, A b → A' b) {x y : V1} {v : Value} (hx : x.ren m = some y) (h : x.Den A w ρ v) : y.Den A' w (ρm m ρ) v := by
  cases x with
  | one s =>
    simp only [V1.ren] at hx
    split at hx
    · rename_i s' hs
      obtain rfl := Option.some.inj hx
      exact Sc.Den.ren hA hs h
    · cases hx
  | agg cs =>
    simp only [V1.ren] at hx
    split at hx
    · rename_i s' hs
      obtain rfl := Option.some.inj hx
      obtain ⟨vs, h1, h2⟩ := h
      exact ⟨vs, h1, DenL.ren hA hs h2⟩
    · cases hx

theorem DenVs.ren (hA : ∀ b, A b → A' b) : ∀ {l l' : List V1} {vs : List Value}, renVs m l = some l' → DenVs A w ρ l vs → DenVs A' w (ρm m ρ) l' vs
  | [], l', [], hl, h => by obtain rfl := Option.some.inj hl; trivial
  | s :: l, l', v :: vs, hl, h => by
    simp only [renVs] at hl
    split at hl
    · rename_i s' hs
      split at hl
      · rename_i r hr
        obtain rfl := Option.some.inj hl
        exact ⟨V1.Den.ren hA hs h.1, DenVs.ren hA hr h.2⟩
      · cases hl
    · cases hl
  | [], _, _ :: _, _, h => h.elim
  | _ :: _, _, [], _, h => h.elim

theorem SV.Den.ren (hA : ∀ b, A b → A' b) {x y : SV} {v : Value} (hx : x.ren m = some y) (h : x.Den A w ρ v) : y.Den A' w (ρm m ρ) v := by
  cases x with
  | val s =>
    simp only [SV.ren] at hx
    split at hx
    · rename_i s' hs
      obtain rfl := Option.some.inj hx
      exact V1.Den.ren hA hs h
    · cases hx
  | tup cs =>
    simp only [SV.ren] at hx
    split at hx
    · rename_i s' hs
      obtain rfl := Option.some.inj hx
      obtain ⟨vs, h1, h2⟩ := h
      exact ⟨vs, h1, DenVs.ren hA hs h2⟩
    · cases hx

theorem Blk.Ok.ren {B : Nat} (hA : ∀ b, A b → A' b) {x y : Blk} {v : Value} (hx : x.ren m = some y) (h : x.Ok B A w ρ v) : y.Ok B A' w (ρm m ρ) v := by
  cases x with
  | box cs =>
    simp only [Blk.ren] at hx
    split at hx
    · rename_i c hc
      obtain rfl := Option.some.inj hx
      obtain ⟨b, arr, t, h1, h2, h3, h4⟩ := h
      exact ⟨b, arr, t, h1, h2, h3, DenL.ren hA hc h4⟩
    · cases hx
  | row t xs =>
    obtain rfl := Option.some.inj hx
    rcases h with h | ⟨b, o, c, arr, e, h1, h2, h3, h4, h5, h6⟩
    · exact .inl h
    · exact .inr ⟨b, o, c, arr, e, h1, h2, h3, h4, h5, fun i hi => DenC.step (fun b o v ha hv => ⟨hA b ha, hv⟩) t _ _ _ (fun _ _ _ e => e) (h6 i hi)⟩
end

/-! ### The names in use -/
def addN (i : Nat) (m : List Nat) : List Nat := match idx m i with | some _ => m | none => m ++ [i]
def Sc.names (s : Sc) (m : List Nat) : List Nat := match s with
  | .ptr i _ | .rp i _ _ _ | .row i | .bsl i _ _ | .vw i _ _ _ => addN i m
  | .func _ caps => caps.foldr (fun p m => addN p.1 m) m
  | _ => m
def namesL : List Sc → List Nat → List Nat
  | [], m => m
  | s :: l, m => namesL l (s.names m)
def V1.names : V1 → List Nat → List Nat
  | .one s, m => s.names m
  | .agg cs, m => namesL cs m
def namesV : List V1 → List Nat → List Nat
  | [], m => m
  | s :: l, m => namesV l (s.names m)
def SV.names : SV → List Nat → List Nat
  | .val x, m => x.names m
  | .tup xs, m => namesV xs m
def namesE (f : Nat → Option SV) : List Nat → List Nat → List Nat
  | [], m => m
  | t :: l, m => namesE f l (match f t with | some sv => sv.names m | none => m)
/-- What the blocks named from place k on name in turn. -/
def namesH (f : Nat → Option Blk) : Nat → Nat → List Nat → List Nat
  | 0, _, m => m
  | fuel + 1, k, m => match m[k]? with
    | some i => namesH f fuel (k + 1) (match f i with | some (.box cs) => namesL cs m | _ => m)
    | none => m

def nodupB : List Nat → Bool
  | [] => true
  | i :: m => match idx m i with | some _ => false | none => nodupB m

def canonE (m : List Nat) (f : Nat → Option SV) : List Nat → Option (List SV)
  | [] => some []
  | t :: l => match f t with
    | some sv => (match sv.ren m with
      | some sv' => (match canonE m f l with | some r => some (sv' :: r) | none => none)
      | none => none)
    | none => none
def canonH (m : List Nat) (f : Nat → Option Blk) : List Nat → Option (List Blk)
  | [] => some []
  | t :: l => match f t with
    | some sv => (match sv.ren m with
      | some sv' => (match canonH m f l with | some r => some (sv' :: r) | none => none)
      | none => none)
    | none => none

def canon (live : List Nat) (st : St) : Option (List SV × List Blk) :=
  let m := namesH st.fH 40 0 (namesE st.fE live [])
  match nodupB m with
  | true => (match canonE m st.fE live with
    | some vs => (match canonH m st.fH m with
      | some bs => some (vs, bs)
      | none => none)
    | none => none)
  | false => none

def zipE : List Nat → List SV → List (Nat × SV)
  | t :: l, v :: r => (t, v) :: zipE l r
  | _, _ => []
def zipH : Nat → List Blk → List (Nat × Option Blk)
  | k, b :: r => (k, some b) :: zipH (k + 1) r
  | _, [] => []
def mkSt (live : List Nat) (vs : List SV) (bs : List Blk) : St := ⟨zipE live vs, zipH 0 bs, bs.length⟩

theorem idx_none : ∀ {m : List Nat} {i : Nat}, idx m i = none → i ∉ m
  | [], _, _ => by simp
  | j :: m, i, h => by
    simp only [idx] at h
    split at h
    · cases h
    · rename_i e
      split at h
      · cases h
      · rename_i h2
        intro hm
        rcases List.mem_cons.1 hm with rfl | hm
        · exact Nat.ne_of_beq_eq_false e rfl
        · exact idx_none h2 hm

theorem nodupB_spec : ∀ {m : List Nat}, nodupB m = true → m.Nodup
  | [], _ => .nil
  | i :: m, h => by
    simp only [nodupB] at h
    split at h
    · cases h
    · rename_i hi
      exact List.nodup_cons.2 ⟨idx_none hi, nodupB_spec h⟩

theorem canonE_spec {m : List Nat} {f : Nat → Option SV} : ∀ {l : List Nat} {vs : List SV}, canonE m f l = some vs → ∀ t sv', look (zipE l vs) t = some sv' → ∃ sv, f t = some sv ∧ sv.ren m = some sv'
  | [], vs, h, t, sv', e => by simp [zipE, look] at e
  | t0 :: l, vs, h, t, sv', e => by
    simp only [canonE] at h
    split at h
    · rename_i sv hsv
      split at h
      · rename_i sv2 hren
        split at h
        · rename_i r hr
          obtain rfl := Option.some.inj h
          simp only [zipE, look] at e
          split at e
          · rename_i hb
            obtain rfl := Option.some.inj e
            rw [← Nat.eq_of_beq_eq_true hb]
            exact ⟨sv, hsv, hren⟩
          · exact canonE_spec hr t sv' e
        · cases h
      · cases h
    · cases h

theorem canonH_spec {m : List Nat} {f : Nat → Option Blk} : ∀ {l : List Nat} {bs : List Blk}, canonH m f l = some bs → bs.length = l.length ∧ ∀ (k : Nat) (b' : Blk), bs[k]? = some b' → ∃ i b, l[k]? = some i ∧ f i = some b ∧ b.ren m = some b'
  | [], bs, h => by obtain rfl := Option.some.inj h; simp
  | t0 :: l, vs, h => by
    simp only [canonH] at h
    split at h
    · rename_i sv hsv
      split at h
      · rename_i sv2 hren
        split at h
        · rename_i r hr
          obtain rfl := Option.some.inj h
          obtain ⟨h1, h2⟩ := canonH_spec hr
          refine ⟨by simp [h1], fun k b' e => ?_⟩
          cases k with
          | zero => simp at e; subst e; exact ⟨t0, sv, rfl, hsv, hren⟩
          | succ k => exact h2 k b' (by simpa using e)
        · cases h
      · cases h
    · cases h

theorem look_zipH : ∀ (l : List Blk) (k i : Nat), look (zipH k l) i = if k ≤ i then (l[i - k]?).map some else none
  | [], k, i => by simp [zipH, look]
  | b :: l, k, i => by
    simp only [zipH, look]
    split
    · rename_i h
      obtain rfl := Nat.eq_of_beq_eq_true h
      simp
    · rename_i h
      have hne := Nat.ne_of_beq_eq_false h
      rw [look_zipH l (k + 1) i]
      by_cases hk : k ≤ i
      · rw [if_pos hk, if_pos (by omega), show i - k = i - (k + 1) + 1 by omega]
        simp
      · rw [if_neg hk, if_neg (by omega)]

theorem mkSt_fH (live : List Nat) (vs : List SV) (bs : List Blk) (i : Nat) : (mkSt live vs bs).fH i = bs[i]? := by
  show (match look (zipH 0 bs) i with | some b => b | none => none) = bs[i]?
  rw [look_zipH]
  simp only [Nat.zero_le, if_true, Nat.sub_zero]
  cases bs[i]? <;> rfl

section
variable {S : Nat → Prop} {w0 : World} {n : Nat} {a : Act} {w : World}

theorem canon_sound {live : List Nat} {st : St} {vs : List SV} {bs : List Blk} (hc : canon live st = some (vs, bs)) (h : HoldsSt S w0 n st a w) : HoldsSt S w0 n (mkSt live vs bs) a w := by
  unfold canon at hc
  simp only [] at hc
  generalize namesH st.fH 40 0 (namesE st.fE live []) = m at hc
  split at hc
  · rename_i hn
    split at hc
    · rename_i vs' hv
      split at hc
      · rename_i bs' hb
        obtain ⟨rfl, rfl⟩ := Prod.mk.inj (Option.some.inj hc)
        obtain ⟨ρ, h⟩ := h
        obtain ⟨hlen, hget⟩ := canonH_spec hb
        have hA : ∀ b, Al S st.fH ρ b → Al S (mkSt live vs' bs').fH (ρm m ρ) b := fun b hb2 => ⟨hb2.1, fun i blk v e1 e2 => by
          rw [mkSt_fH] at e1
          obtain ⟨i0, b0, h1, h2, _⟩ := hget i blk e1
          refine hb2.2 i0 b0 v h2 ?_
          simpa [ρm, h1] using e2⟩
        refine ⟨ρm m ρ, h.size, h.defers, fun t sv e => ?_, fun i blk e => ?_, fun i j bi bj vi vj b hne e1 e2 e3 e4 => ?_, fun i hi => ?_, h.below, h.new, fun i v e => ?_⟩
        · obtain ⟨sv0, h1, h2⟩ := canonE_spec hv t sv e
          obtain ⟨h3, h4⟩ := h.tmps t sv0 h1
          exact ⟨h3, SV.Den.ren hA h2 h4⟩
        · rw [mkSt_fH] at e
          obtain ⟨i0, b0, h1, h2, h3⟩ := hget i blk e
          obtain ⟨v, h4, h5⟩ := h.blks i0 b0 h2
          exact ⟨v, by simpa [ρm, h1] using h4, Blk.Ok.ren hA h3 h5⟩
        · rw [mkSt_fH] at e1 e2
          obtain ⟨i0, b0, h1, h2, h3⟩ := hget i _ e1
          obtain ⟨j0, c0, g1, g2, g3⟩ := hget j _ e2
          have hne0 : i0 ≠ j0 := fun q => by
            subst q
            have hi := (List.getElem?_eq_some_iff.1 h1)
            have hj := (List.getElem?_eq_some_iff.1 g1)
            obtain ⟨hi, ei⟩ := hi
            obtain ⟨hj, ej⟩ := hj
            rcases Nat.lt_or_gt_of_ne hne with g | g
            · exact List.pairwise_iff_getElem.1 (nodupB_spec hn) i j hi hj g (ei.trans ej.symm)
            · exact List.pairwise_iff_getElem.1 (nodupB_spec hn) j i hj hi g (ej.trans ei.symm)
          exact h.inj i0 j0 b0 c0 vi vj b hne0 h2 g2 (by simpa [ρm, h1] using e3) (by simpa [ρm, g1] using e4)
        · have hi : bs'.length ≤ i := hi
          rw [mkSt_fH]
          have : m[i]? = none := List.getElem?_eq_none (by omega)
          exact ⟨by simp [ρm, this], List.getElem?_eq_none hi⟩
        · unfold ρm at e
          obtain ⟨i0, _, h2⟩ := Option.bind_eq_some_iff.1 e
          exact h.shape i0 v h2
      · cases hc
    · cases hc
  · cases hc
end
end Go.Proofs.YtkdohmgacodhjaaPx
