/- Functions: the contract; no condition. -/
import Derived.Test.YtkdohmgacodhjaaPx21
set_option linter.unusedVariables false
set_option linter.unusedSimpArgs false
namespace Go.Proofs.YtkdohmgacodhjaaPx
open Go.RowKit

section
variable {α : Type}
/-- The results of a function. -/
def resL (P : Program) : List ResultVar → (List V1 → RM α) → RM α
  | [], k => k []
  | .tmp t :: l, k => .tmp t fun | .val x => resL P l fun xs => k (x :: xs) | _ => .fail
  | .cell t ty :: l, k => .tmp t fun | .val (.one p) => aLoad P ty p (fun | .val x => resL P l fun xs => k (x :: xs) | _ => .fail) | _ => .fail

/-- Own rows are handed over. -/
def exS (s : Sc) (k : Sc → List (Option Nat) → RM α) : RM α :=
  match s with
  | .row i => .blk i fun | .row t xs => k (.sl t xs) [some i] | _ => .fail
  | .int a b => k (.int a b) []
  | .bool b => k (.bool b) []
  | .nil => k .nil [none]
  | _ => .fail
def exL : List Sc → (List Sc → List (Option Nat) → RM α) → RM α
  | [], k => k [] []
  | s :: ss, k => exS s fun s ds => exL ss fun ss es => k (s :: ss) (ds ++ es)
def exVs : List V1 → (List V1 → List (Option Nat) → RM α) → RM α
  | [], k => k [] []
  | .one s :: vs, k => exS s fun s ds => exVs vs fun vs es => k (.one s :: vs) (ds ++ es)
  | .agg cs :: vs, k => exL cs fun cs ds => exVs vs fun vs es => k (.agg cs :: vs) (ds ++ es)
end

def someL : List (Option Nat) → List Nat
  | [] => []
  | some i :: l => i :: someL l
  | none :: l => someL l

def retM (P : Program) (fn : Func) (own : Bool) (res : List VT) : RM (Tup res) :=
  resL P fn.results.toList fun vs => match own with
    | false => sealVs vs fun ys _ => match decTup res ys with | some x => .ret x | none => .fail
    | true => exVs vs fun ys ds => match nodupB (someL ds) with
      | true => (match decTup res ys with | some x => .ret x | none => .fail)
      | false => .fail

def κ0 (P : Program) (fn : Func) (own : Bool) (res : List VT) (e : Ex) (st : St) : Dec (Tup res) := match e with
  | .exit _ => .fail
  | .normal => (retM P fn own res).dec st .ret
  | .ret => (retM P fn own res).dec st .ret

def zipA : Nat → List V1 → List (Nat × SV)
  | i, x :: l => (i, .val x) :: zipA (i + 1) l
  | _, [] => []
def st0 (args : List V1) : St := ⟨zipA 0 args, [], 0⟩

/-- The function in full. -/
def pxFn (P : Program) (Γ : FuncId → Option Sig) (T : List (Nat × List Nat)) (fn : Func) (c : Code) (own : Bool) (res : List VT) (args : List V1) : Dec (Tup res) :=
  px P Γ fn.ntmps T c (κ0 P fn own res) (st0 args)

section
variable {S : Nat → Prop} {w0 : World} {n : Nat} {fr : Nat → Prop} {fE : Nat → Option SV} {fH : Nat → Option Blk} {ρ : Nat → Option Value} {a : Act} {w : World} {P : Program}

theorem loadVar_of_loadAt {t : TypeId} {v u : Value} (h : (Instr.loadAt t v).run P w = .ok u w) : (asAddr v >>= fun a => loadVar t a).run P w = .ok u w := by
  unfold Instr.loadAt at h
  cases v with
  | pointer p =>
    cases p with
    | none => cases h
    | some a => simpa [Instr.sureAddr, asAddr] using h
  | _ => cases h

def rget (tmps : Array Value) : ResultVar → Sem Value
  | .tmp t => pure (tmps.getD t undef)
  | .cell a t => do loadVar t (← asAddr (tmps.getD a undef))

def GetsL (P : Program) (w : World) (tmps : Array Value) : List ResultVar → List Value → Prop
  | [], [] => True
  | r :: l, v :: vs => (rget tmps r).run P w = .ok v w ∧ GetsL P w tmps l vs
  | _, _ => False

def retV : List Value → Value
  | [v] => v
  | vs => .tuple vs.toArray

theorem results_gets {fn : Func} {tmps : Array Value} {vs : List Value} (hlen : fn.results.size ≤ 4) (h : GetsL P w tmps fn.results.toList vs) : (results fn tmps).run P w = .ok (retV vs) w := by
  have e : results fn tmps = (do let vs ← fn.results.mapM (rget tmps); pure (if h : vs.size = 1 then vs[0] else .tuple vs)) := by
    unfold results
    congr
  rw [e]
  generalize fn.results = rs at h hlen
  obtain ⟨rs⟩ := rs
  simp only [List.size_toArray] at hlen h
  match rs, vs, h with
  | [], [], _ => simp [retV]
  | [r], [v], h => simp [retV, h.1]
  | [r, r2], [v, v2], h => simp [retV, h.1, h.2.1]
  | [r, r2, r3], [v, v2, v3], h => simp [retV, h.1, h.2.1, h.2.2.1]
  | [r, r2, r3, r4], [v, v2, v3, v4], h => simp [retV, h.1, h.2.1, h.2.2.1, h.2.2.2.1]
  | _ :: _ :: _ :: _ :: _ :: _, _, _ => simp at hlen
  | [_, _], [_], h => exact h.2.elim
  | [_, _, _], [_], h => exact h.2.elim
  | [_, _, _, _], [_], h => exact h.2.elim

theorem resL_sound {α : Type} {e : α} (h : Holds S w0 n fr fE fH ρ a w) : ∀ {l : List ResultVar} {k : List V1 → RM α}, (resL P l k).Ev fE fH e → ∃ xs vs, (k xs).Ev fE fH e ∧ GetsL P w a.tmps l vs ∧ DenVs (Al S fH ρ) w ρ xs vs
  | [], k, he => ⟨[], [], he, trivial, trivial⟩
  | .tmp t :: l, k, he => by
    obtain ⟨sv, h1, he⟩ := he
    dsimp only at he
    split at he
    · rename_i x
      obtain ⟨xs, vs, h2, h3, h4⟩ := resL_sound h he
      exact ⟨x :: xs, _ :: vs, h2, ⟨rfl, h3⟩, ⟨(h.tmps t _ h1).2, h4⟩⟩
    · exact he.elim
  | .cell t ty :: l, k, he => by
    obtain ⟨sv, h1, he⟩ := he
    dsimp only at he
    split at he
    · rename_i p
      obtain ⟨sv, u, hr, hd, he⟩ := aLoad_sound h (h.tmps t _ h1).2 he
      split at he
      · rename_i x
        obtain ⟨xs, vs, h2, h3, h4⟩ := resL_sound h he
        exact ⟨x :: xs, u :: vs, h2, ⟨loadVar_of_loadAt hr, h3⟩, ⟨hd, h4⟩⟩
      · exact he.elim
    · exact he.elim

/-! ### Handing over -/
abbrev Ds := List (Option Nat)
def Exp1 (fH : Nat → Option Blk) (ρ : Nat → Option Value) (s : Sc) (ds : Ds) (v : Value) : Prop := match s with
  | .sl t xs => (∃ i, ds = [some i] ∧ fH i = some (.row t xs) ∧ ρ i = some v) ∨ (ds = [none] ∧ xs = [] ∧ v = .slice none 0 0)
  | .int k n => ds = [] ∧ v = .int k n
  | .bool b => ds = [] ∧ v = .bool b
  | .nil => ds = [none] ∧ v = .slice none 0 0
  | _ => False
def ExpL (fH : Nat → Option Blk) (ρ : Nat → Option Value) : List Sc → Ds → List Value → Prop
  | [], ds, [] => ds = []
  | s :: ss, ds, v :: vs => ∃ d1 d2, ds = d1 ++ d2 ∧ Exp1 fH ρ s d1 v ∧ ExpL fH ρ ss d2 vs
  | _, _, _ => False
def ExpV (fH : Nat → Option Blk) (ρ : Nat → Option Value) (x : V1) (ds : Ds) (v : Value) : Prop := match x with
  | .one s => Exp1 fH ρ s ds v
  | .agg cs => ∃ vs : List Value, v = .agg vs.toArray ∧ ExpL fH ρ cs ds vs
def ExpVs (fH : Nat → Option Blk) (ρ : Nat → Option Value) : List V1 → Ds → List Value → Prop
  | [], ds, [] => ds = []
  | s :: ss, ds, v :: vs => ∃ d1 d2, ds = d1 ++ d2 ∧ ExpV fH ρ s d1 v ∧ ExpVs fH ρ ss d2 vs
  | _, _, _ => False

theorem exS_sound {α : Type} {e : α} {A : Nat → Prop} {s : Sc} {v : Value} {k : Sc → Ds → RM α} (hd : s.Den A w ρ v) (he : (exS s k).Ev fE fH e) : ∃ s' ds, (k s' ds).Ev fE fH e ∧ Exp1 fH ρ s' ds v := by
  unfold exS at he
  cases s with
  | row i =>
    obtain ⟨b, hb, he⟩ := he
    cases b with
    | row t xs => exact ⟨_, _, he, .inl ⟨i, rfl, hb, hd⟩⟩
    | box cs => exact he.elim
  | int q m => exact ⟨_, _, he, rfl, hd⟩
  | bool b => exact ⟨_, _, he, rfl, hd⟩
  | nil => exact ⟨_, _, he, rfl, hd⟩
  | _ => exact he.elim

theorem exL_sound {α : Type} {e : α} {A : Nat → Prop} : ∀ {ss : List Sc} {vs : List Value} {k : List Sc → Ds → RM α}, DenL A w ρ ss vs → (exL ss k).Ev fE fH e → ∃ ss' ds, (k ss' ds).Ev fE fH e ∧ ExpL fH ρ ss' ds vs
  | [], [], k, _, he => ⟨[], [], he, rfl⟩
  | s :: ss, v :: vs, k, hd, he => by
    obtain ⟨s', ds, he, h1⟩ := exS_sound hd.1 he
    obtain ⟨ss', es, he, h2⟩ := exL_sound hd.2 he
    exact ⟨_, _, he, ds, es, rfl, h1, h2⟩
  | [], _ :: _, _, hd, _ => hd.elim
  | _ :: _, [], _, hd, _ => hd.elim

theorem exVs_sound {α : Type} {e : α} {A : Nat → Prop} : ∀ {ss : List V1} {vs : List Value} {k : List V1 → Ds → RM α}, DenVs A w ρ ss vs → (exVs ss k).Ev fE fH e → ∃ ss' ds, (k ss' ds).Ev fE fH e ∧ ExpVs fH ρ ss' ds vs
  | [], [], k, _, he => ⟨[], [], he, rfl⟩
  | .one s :: ss, v :: vs, k, hd, he => by
    obtain ⟨s', ds, he, h1⟩ := exS_sound hd.1 he
    obtain ⟨ss', es, he, h2⟩ := exVs_sound hd.2 he
    exact ⟨_, _, he, ds, es, rfl, h1, h2⟩
  | .agg cs :: ss, v :: vs, k, hd, he => by
    obtain ⟨us, hv, hc⟩ := hd.1
    obtain ⟨s', ds, he, h1⟩ := exL_sound hc he
    obtain ⟨ss', es, he, h2⟩ := exVs_sound hd.2 he
    exact ⟨_, _, he, ds, es, rfl, ⟨us, hv, h1⟩, h2⟩
  | [], _ :: _, _, hd, _ => hd.elim
  | .one _ :: _, [], _, hd, _ => hd.elim
  | .agg _ :: _, [], _, hd, _ => hd.elim

/-- What lies in the block named d. -/
def Src (fH : Nat → Option Blk) (d : Option Nat) (b : Blk) : Prop := match d with
  | some i => fH i = some b ∧ ∃ t xs, b = .row t xs
  | none => ∃ t, b = .row t []

/-- The rows named from 'base' on. -/
def Owned (fH : Nat → Option Blk) (base : Nat) (b : List (Nat × Blk)) (ds : Ds) : Prop :=
  b.length = ds.length ∧ ∀ (p : Nat) (q : Nat × Blk), b[p]? = some q → q.1 = base + p ∧ ∃ d, ds[p]? = some d ∧ Src fH d q.2

theorem Owned.append {base : Nat} {b1 b2 : List (Nat × Blk)} {d1 d2 : Ds} (h1 : Owned fH base b1 d1) (h2 : Owned fH (base + d1.length) b2 d2) : Owned fH base (b1 ++ b2) (d1 ++ d2) := by
  refine ⟨by simp [h1.1, h2.1], fun p q e => ?_⟩
  by_cases hp : p < b1.length
  · rw [List.getElem?_append_left hp] at e
    obtain ⟨e1, d, e2, e3⟩ := h1.2 p q e
    exact ⟨e1, d, by rw [List.getElem?_append_left (by rw [← h1.1]; exact hp)]; exact e2, e3⟩
  · rw [List.getElem?_append_right (by omega)] at e
    obtain ⟨e1, d, e2, e3⟩ := h2.2 _ q e
    have := h1.1
    exact ⟨by omega, d, by rw [List.getElem?_append_right (by omega), ← h1.1]; exact e2, e3⟩

theorem Owned.nil {base : Nat} : Owned fH base [] [] := ⟨rfl, fun p q e => by simp at e⟩
theorem Owned.one {base : Nat} {d : Option Nat} {b : Blk} (h : Src fH d b) : Owned fH base [(base, b)] [d] := by
  refine ⟨rfl, fun p q e => ?_⟩
  cases p with
  | zero => simp at e; subst e; exact ⟨rfl, d, rfl, h⟩
  | succ p => simp at e

def valO (ρ : Nat → Option Value) : Option Nat → Option Value
  | some i => ρ i
  | none => some (.slice none 0 0)

def At (ρ ρr : Nat → Option Value) (base : Nat) (ds : Ds) : Prop := ∀ (p : Nat) (d : Option Nat), ds[p]? = some d → ρr (base + p) = valO ρ d

theorem At.left {ρr : Nat → Option Value} {base : Nat} {d1 d2 : Ds} (h : At ρ ρr base (d1 ++ d2)) : At ρ ρr base d1 := fun p d e => h p d (by rw [List.getElem?_append_left (List.getElem?_eq_some_iff.1 e).1]; exact e)
theorem At.right {ρr : Nat → Option Value} {base : Nat} {d1 d2 : Ds} (h : At ρ ρr base (d1 ++ d2)) : At ρ ρr (base + d1.length) d2 := fun p d e => by
  have := h (d1.length + p) d (by rw [List.getElem?_append_right (by omega), show d1.length + p - d1.length = p by omega]; exact e)
  rw [← this, show base + d1.length + p = base + (d1.length + p) by omega]

def Sc.plain : Sc → Bool
  | .nil => false
  | _ => true

theorem ownL_spec : ∀ {ss : List Sc} {ds : Ds} {vs : List Value} (base : Nat), ss.all Sc.plain = true → ExpL fH ρ ss ds vs → (ownL base ss).2.2 = base + ds.length ∧ Owned fH base (ownL base ss).2.1 ds ∧ ∀ (ρr : Nat → Option Value) (A : Nat → Prop) (w : World), At ρ ρr base ds → DenL A w ρr (ownL base ss).1 vs
  | [], ds, [], base, _, h => by obtain rfl := h; exact ⟨rfl, Owned.nil, fun _ _ _ _ => trivial⟩
  | s :: ss, ds, v :: vs, base, hp, h => by
    obtain ⟨d1, d2, rfl, h1, h2⟩ := h
    simp only [List.all_cons, Bool.and_eq_true] at hp
    cases s with
    | sl t xs =>
      have key : ∃ d, d1 = [d] ∧ Src fH d (.row t xs) ∧ valO ρ d = some v := by
        rcases h1 with ⟨i, e, hf, hr⟩ | ⟨e, hx, hv⟩
        · exact ⟨some i, e, ⟨hf, t, xs, rfl⟩, hr⟩
        · subst hx; exact ⟨none, e, ⟨t, rfl⟩, by rw [hv]; rfl⟩
      obtain ⟨d, rfl, hs, hr⟩ := key
      obtain ⟨e1, e2, e3⟩ := ownL_spec (base + 1) hp.2 h2
      refine ⟨by simp only [ownL, e1, List.length_append, List.length_singleton]; omega, Owned.append (b1 := [(base, .row t xs)]) (.one hs) e2, fun ρr A w hat => ⟨?_, ?_⟩⟩
      · show ρr base = some v
        rw [← hr]; exact hat 0 d rfl
      · exact e3 ρr A w hat.right
    | int q m =>
      obtain ⟨rfl, hv⟩ := h1
      obtain ⟨e1, e2, e3⟩ := ownL_spec base hp.2 h2
      exact ⟨e1, e2, fun ρr A w hat => ⟨hv, e3 ρr A w hat⟩⟩
    | bool b =>
      obtain ⟨rfl, hv⟩ := h1
      obtain ⟨e1, e2, e3⟩ := ownL_spec base hp.2 h2
      exact ⟨e1, e2, fun ρr A w hat => ⟨hv, e3 ρr A w hat⟩⟩
    | nil => simp [Sc.plain] at hp
    | _ => exact h1.elim
  | [], _, _ :: _, _, _, h => h.elim
  | _ :: _, _, [], _, _, h => h.elim

theorem ownL_one (base : Nat) (s : Sc) : ∃ s', (ownL base [s]).1 = [s'] := by cases s <;> exact ⟨_, rfl⟩

theorem ownVs_spec : ∀ {ss : List V1} {ds : Ds} {vs : List Value} (base : Nat), ss.all (fun x => x.cells.all Sc.plain) = true → ExpVs fH ρ ss ds vs → (ownVs base ss).2.2 = base + ds.length ∧ Owned fH base (ownVs base ss).2.1 ds ∧ ∀ (ρr : Nat → Option Value) (A : Nat → Prop) (w : World), At ρ ρr base ds → DenVs A w ρr (ownVs base ss).1 vs
  | [], ds, [], base, _, h => by obtain rfl := h; exact ⟨rfl, Owned.nil, fun _ _ _ _ => trivial⟩
  | .one s :: ss, ds, v :: vs, base, hp, h => by
    obtain ⟨d1, d2, rfl, h1, h2⟩ := h
    simp only [List.all_cons, Bool.and_eq_true] at hp
    have hL : ExpL fH ρ [s] d1 [v] := ⟨d1, [], by simp, h1, rfl⟩
    obtain ⟨e1, e2, e3⟩ := ownL_spec base (by simpa [V1.cells] using hp.1) hL
    obtain ⟨g1, g2, g3⟩ := ownVs_spec (base + d1.length) hp.2 h2
    obtain ⟨s', hs'⟩ := ownL_one base s
    simp only [ownVs, e1]
    refine ⟨by simp [g1]; omega, e2.append g2, fun ρr A w hat => ?_⟩
    have := e3 ρr A w hat.left
    rw [hs'] at this ⊢
    exact ⟨this.1, g3 ρr A w hat.right⟩
  | .agg cs :: ss, ds, v :: vs, base, hp, h => by
    obtain ⟨d1, d2, rfl, ⟨us, hv, h1⟩, h2⟩ := h
    simp only [List.all_cons, Bool.and_eq_true] at hp
    obtain ⟨e1, e2, e3⟩ := ownL_spec base (by simpa [V1.cells] using hp.1) h1
    obtain ⟨g1, g2, g3⟩ := ownVs_spec (base + d1.length) hp.2 h2
    simp only [ownVs, e1]
    exact ⟨by simp [g1]; omega, e2.append g2, fun ρr A w hat => ⟨⟨us, hv, e3 ρr A w hat.left⟩, g3 ρr A w hat.right⟩⟩
  | [], _, _ :: _, _, _, h => h.elim
  | .one _ :: _, _, [], _, _, h => h.elim
  | .agg _ :: _, _, [], _, _, h => h.elim

/-! Decoded. -/
theorem ofCells_exp : ∀ (t : Ty) (cs : List Sc) (ds : Ds) (vs : List Value) (x : t.D) (r : List Sc), t.ofCells cs = some (x, r) → ExpL fH ρ cs ds vs →
    ∃ d1 d2 v1 v2, ds = d1 ++ d2 ∧ vs = v1 ++ v2 ∧ ExpL fH ρ (t.cells x) d1 v1 ∧ ExpL fH ρ r d2 v2
  | .int, .int .i64 n :: r, ds, v :: vs, x, r', h, hd => by
    simp only [Ty.ofCells, Option.some.injEq, Prod.mk.injEq] at h
    obtain ⟨rfl, rfl⟩ := h
    obtain ⟨d1, d2, e, h1, h2⟩ := hd
    exact ⟨d1, d2, [v], vs, e, rfl, ⟨d1, [], by simp, h1, rfl⟩, h2⟩
  | .bool, .bool b :: r, ds, v :: vs, x, r', h, hd => by
    simp only [Ty.ofCells, Option.some.injEq, Prod.mk.injEq] at h
    obtain ⟨rfl, rfl⟩ := h
    obtain ⟨d1, d2, e, h1, h2⟩ := hd
    exact ⟨d1, d2, [v], vs, e, rfl, ⟨d1, [], by simp, h1, rfl⟩, h2⟩
  | .pair a b, cs, ds, vs, x, r, h, hd => by
    simp only [Ty.ofCells] at h
    split at h
    · rename_i y r1 h1
      split at h
      · rename_i z r2 h2
        simp only [Option.some.injEq, Prod.mk.injEq] at h
        obtain ⟨rfl, rfl⟩ := h
        obtain ⟨d1, d2, v1, v2, rfl, rfl, g1, g2⟩ := ofCells_exp a cs ds vs y r1 h1 hd
        obtain ⟨e1, e2, u1, u2, rfl, rfl, k1, k2⟩ := ofCells_exp b r1 d2 v2 z r2 h2 g2
        refine ⟨d1 ++ e1, e2, v1 ++ u1, u2, by simp, by simp, ?_, k2⟩
        exact expL_append g1 k1
      · cases h
    · cases h
  | .sl t, .sl t' xs :: r, ds, v :: vs, x, r', h, hd => by
    simp only [Ty.ofCells] at h
    split at h
    · rename_i e
      subst e
      simp only [Option.some.injEq, Prod.mk.injEq] at h
      obtain ⟨rfl, rfl⟩ := h
      obtain ⟨d1, d2, e, h1, h2⟩ := hd
      exact ⟨d1, d2, [v], vs, e, rfl, ⟨d1, [], by simp, h1, rfl⟩, h2⟩
    · cases h
  | .sl t, .nil :: r, ds, v :: vs, x, r', h, hd => by
    simp only [Ty.ofCells, Option.some.injEq, Prod.mk.injEq] at h
    obtain ⟨rfl, rfl⟩ := h
    obtain ⟨d1, d2, e, h1, h2⟩ := hd
    exact ⟨d1, d2, [v], vs, e, rfl, ⟨d1, [], by simp, .inr ⟨h1.1, rfl, h1.2⟩, rfl⟩, h2⟩
  | .ref t, cs, ds, vs, x, r, h, hd => by
    cases cs with
    | nil => simp [Ty.ofCells] at h
    | cons s l =>
      cases vs with
      | nil => exact hd.elim
      | cons v vs =>
        obtain ⟨d1, d2, _, h1, _⟩ := hd
        cases s with
        | ep t' y j => exact h1.elim
        | _ => simp [Ty.ofCells] at h
  | .clo g t, cs, ds, vs, x, r, h, hd => by
    cases cs with
    | nil => simp [Ty.ofCells] at h
    | cons s l =>
      cases vs with
      | nil => exact hd.elim
      | cons v vs =>
        obtain ⟨d1, d2, _, h1, _⟩ := hd
        cases s with
        | clo g' t' y => exact h1.elim
        | _ => simp [Ty.ofCells] at h
  | .fn g, cs, ds, vs, x, r, h, hd => by
    cases cs with
    | nil => simp [Ty.ofCells] at h
    | cons s l =>
      cases vs with
      | nil => exact hd.elim
      | cons v vs =>
        obtain ⟨d1, d2, _, h1, _⟩ := hd
        cases s with
        | func g' l' => exact h1.elim
        | _ => simp [Ty.ofCells] at h
  | .num k, cs, ds, vs, x, r, h, hd => by
    cases cs with
    | nil => simp [Ty.ofCells] at h
    | cons s l =>
      cases vs with
      | nil => exact hd.elim
      | cons v vs =>
        cases s with
        | int k' n =>
          simp only [Ty.ofCells] at h
          split at h
          · rename_i e
            subst e
            simp only [Option.some.injEq, Prod.mk.injEq] at h
            obtain ⟨rfl, rfl⟩ := h
            obtain ⟨d1, d2, e, h1, h2⟩ := hd
            exact ⟨d1, d2, [v], vs, e, rfl, ⟨d1, [], by simp, h1, rfl⟩, h2⟩
          · simp at h
        | _ => simp [Ty.ofCells] at h
where
  expL_append : ∀ {a b : List Sc} {d e : Ds} {v u : List Value}, ExpL fH ρ a d v → ExpL fH ρ b e u → ExpL fH ρ (a ++ b) (d ++ e) (v ++ u)
    | [], _, d, _, [], _, h, h' => by obtain rfl := h; exact h'
    | s :: a, b, d, e, v :: vs, u, h, h' => by
      obtain ⟨d1, d2, rfl, h1, h2⟩ := h
      exact ⟨d1, d2 ++ e, by simp, h1, expL_append h2 h'⟩
    | [], _, _, _, _ :: _, _, h, _ => h.elim
    | _ :: _, _, _, _, [], _, h, _ => h.elim

theorem cells_plain : ∀ (t : Ty) (x : t.D), (t.cells x).all Sc.plain = true
  | .int, _ => rfl
  | .bool, _ => rfl
  | .pair a b, x => by rw [Ty.cells, List.all_append, cells_plain a, cells_plain b]; rfl
  | .sl _, _ => rfl
  | .ref _, _ => rfl
  | .clo _ _, _ => rfl
  | .fn _, _ => rfl
  | .num _, _ => rfl

theorem enc_plain (v : VT) (x : v.t.D) : (v.enc x).cells.all Sc.plain = true := by rw [enc_cells]; exact cells_plain _ _
theorem encTup_plain : ∀ (l : List VT) (x : Tup l), (encTup l x).all (fun x => x.cells.all Sc.plain) = true
  | [], _ => rfl
  | [v], x => by simp only [encTup, List.all_cons, List.all_nil, Bool.and_true]; exact enc_plain v x
  | v :: v' :: l, x => by simp only [encTup, List.all_cons, Bool.and_eq_true]; exact ⟨enc_plain v x.1, encTup_plain (v' :: l) x.2⟩

theorem dec_exp {v : VT} {x : V1} {y : v.t.D} {ds : Ds} {u : Value} (h : v.dec x = some y) (hd : ExpV fH ρ x ds u) : ExpV fH ρ (v.enc y) ds u := by
  unfold VT.dec at h
  unfold VT.enc
  split at h
  · rename_i cs ha
    rw [if_pos ha]
    split at h
    · rename_i z hz
      simp only [Option.some.injEq] at h
      subst h
      obtain ⟨vs, hv, hd⟩ := hd
      obtain ⟨d1, d2, v1, v2, rfl, rfl, g1, g2⟩ := ofCells_exp _ _ _ _ _ _ hz hd
      cases v2 with
      | nil => obtain rfl := g2; exact ⟨v1, by rw [hv, List.append_nil], by rw [List.append_nil]; exact g1⟩
      | cons => exact g2.elim
    · simp at h
  · rename_i s ha
    rw [if_neg (by simp [ha])]
    split at h
    · rename_i z hz
      simp only [Option.some.injEq] at h
      subst h
      obtain ⟨d1, d2, v1, v2, rfl, hv, g1, g2⟩ := ofCells_exp _ _ ds [u] _ _ hz ⟨ds, [], by simp, hd, rfl⟩
      cases v2 with
      | cons => exact g2.elim
      | nil =>
        obtain rfl := g2
        rw [List.append_nil] at hv
        subst hv
        rw [List.append_nil]
        generalize v.t.cells z = cs at g1
        cases cs with
        | nil => exact g1.elim
        | cons s r =>
          cases r with
          | nil => obtain ⟨d1, d2, rfl, g, e⟩ := g1; obtain rfl := e; rw [List.append_nil]; exact g
          | cons => obtain ⟨_, _, _, _, g⟩ := g1; exact g.elim
    · simp at h
  · simp at h

theorem decTup_exp : ∀ (l : List VT) (xs : List V1) (x : Tup l) (ds : Ds) (us : List Value), decTup l xs = some x → ExpVs fH ρ xs ds us → ExpVs fH ρ (encTup l x) ds us
  | [], xs, x, ds, us, h, hd => by
    cases xs with
    | nil => exact hd
    | cons y ys => exact absurd (show (none : Option (Tup [])) = some x from h) (fun q => by cases q)
  | [v], xs, y, ds, us, h, hd => by
    cases xs with
    | nil => exact absurd (show (none : Option (Tup [v])) = some y from h) (fun q => by cases q)
    | cons x xs =>
      cases xs with
      | cons z zs => exact absurd (show (none : Option (Tup [v])) = some y from h) (fun q => by cases q)
      | nil =>
        cases us with
        | nil => exact hd.elim
        | cons u us =>
          obtain ⟨d1, d2, e, h1, h2⟩ := hd
          exact ⟨d1, d2, e, dec_exp h h1, h2⟩
  | v :: v' :: l, xs, y, ds, us, h, hd => by
    cases xs with
    | nil => exact absurd (show (none : Option (Tup (v :: v' :: l))) = some y from h) (fun q => by cases q)
    | cons x xs =>
      cases us with
      | nil => exact hd.elim
      | cons u us =>
        obtain ⟨d1, d2, e, h1, h2⟩ := hd
        have h' : (match v.dec x, decTup (v' :: l) xs with
          | some y, some z => some ((y, z) : Tup (v :: v' :: l))
          | _, _ => none) = some y := h
        cases hz : v.dec x with
        | none => rw [hz] at h'; cases h'
        | some z =>
          cases hz2 : decTup (v' :: l) xs with
          | none => rw [hz, hz2] at h'; cases h'
          | some z2 =>
            rw [hz, hz2] at h'
            have := Option.some.inj h'
            subst this
            exact ⟨d1, d2, e, dec_exp hz h1, decTup_exp (v' :: l) xs z2 d2 us hz2 h2⟩
end
end Go.Proofs.YtkdohmgacodhjaaPx
