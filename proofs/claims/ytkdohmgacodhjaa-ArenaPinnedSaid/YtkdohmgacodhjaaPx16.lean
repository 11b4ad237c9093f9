/- Decision trees; lists of operations in the order of the text, and in whatever order; no condition. -/
import Derived.Test.YtkdohmgacodhjaaPx15
import Derived.Orders
set_option linter.unusedVariables false
set_option linter.unusedSimpArgs false
namespace Go.Proofs.YtkdohmgacodhjaaPx
open Go.RowKit

/-! ### States as lists -/
def look {α : Type} : List (Nat × α) → Nat → Option α
  | [], _ => none
  | (k, v) :: r, i => match Nat.beq k i with
    | true => some v
    | false => look r i

structure St where
  E : List (Nat × SV)
  H : List (Nat × Option Blk)
  nx : Nat

def St.fE (st : St) : Nat → Option SV := look st.E
def St.fH (st : St) : Nat → Option Blk := fun i => match look st.H i with | some b => b | none => none

theorem look_cons {α : Type} (k : Nat) (v : α) (l : List (Nat × α)) : look ((k, v) :: l) = upd (look l) k (some v) := by
  funext i
  simp only [look, upd]
  cases h : Nat.beq k i with
  | true => rw [if_pos (Nat.eq_of_beq_eq_true h).symm]
  | false => rw [if_neg (fun e => Nat.ne_of_beq_eq_false h e.symm)]

def pushW : List (Nat × Option Blk) → List (Nat × Option Blk) → List (Nat × Option Blk)
  | [], H => H
  | p :: r, H => pushW r (p :: H)

theorem pushW_fH (wr : List (Nat × Option Blk)) (E : List (Nat × SV)) (H : List (Nat × Option Blk)) (nx nx' : Nat) : (St.mk E (pushW wr H) nx).fH = applyW wr (St.mk E H nx').fH := by
  induction wr generalizing H with
  | nil => rfl
  | cons p r ih =>
    obtain ⟨i, x⟩ := p
    simp only [pushW, applyW]
    rw [ih]
    congr 1
    funext j
    simp only [St.fH, look, upd]
    cases h : Nat.beq i j with
    | true => rw [if_pos (Nat.eq_of_beq_eq_true h).symm]
    | false => rw [if_neg (fun e => Nat.ne_of_beq_eq_false h e.symm)]

/-! ### Decision trees -/
inductive Dec (R : Type) : Type where
  | ret (r : R)
  | fail
  | br (b : Bool) (x y : Dec R)
  | call (f : FuncId) (s : Sig) (x : Tup s.args) (k : Tup s.res → Dec R)
  | cut (L : Nat) (vs : List SV) (bs : List Blk)

def Dec.run {R : Type} (Λ : Nat → List SV → List Blk → Option R) : Dec R → Option R
  | .ret r => some r
  | .fail => none
  | .br b x y => match b with
    | true => x.run Λ
    | false => y.run Λ
  | .call _ s x k => (s.fn x).bind fun r => (k r).run Λ
  | .cut L vs bs => Λ L vs bs

inductive Loc where
  | tmp (t : Nat)
  | blk (i : Nat)
  deriving DecidableEq

section
variable {R : Type} {α : Type}

def RM.dec (st : St) : RM α → (α → Dec R) → Dec R
  | .ret a, k => k a
  | .fail, _ => .fail
  | .tmp t f, k => match st.fE t with
    | some sv => (f sv).dec st k
    | none => .fail
  | .blk i f, k => match st.fH i with
    | some b => (f b).dec st k
    | none => .fail
  | .br b x y, k => .br b (x.dec st k) (y.dec st k)
  | .call f s x g, k => .call f s x fun r => (g r).dec st k

/-- The same, telling what was read. -/
def RM.decF (st : St) : RM α → (α → List Loc → Dec R) → Dec R
  | .ret a, k => k a []
  | .fail, _ => .fail
  | .tmp t f, k => match st.fE t with
    | some sv => (f sv).decF st fun a l => k a (.tmp t :: l)
    | none => .fail
  | .blk i f, k => match st.fH i with
    | some b => (f b).decF st fun a l => k a (.blk i :: l)
    | none => .fail
  | .br b x y, k => .br b (x.decF st k) (y.decF st k)
  | .call f s x g, k => .call f s x fun r => (g r).decF st k

def RM.EvF (fE : Nat → Option SV) (fH : Nat → Option Blk) : RM α → α → List Loc → Prop
  | .ret a, a', l => a' = a ∧ l = []
  | .fail, _, _ => False
  | .tmp t k, a', l => ∃ sv l', fE t = some sv ∧ l = .tmp t :: l' ∧ (k sv).EvF fE fH a' l'
  | .blk i k, a', l => ∃ b l', fH i = some b ∧ l = .blk i :: l' ∧ (k b).EvF fE fH a' l'
  | .br b x y, a', l => (b = true ∧ x.EvF fE fH a' l) ∨ (b = false ∧ y.EvF fE fH a' l)
  | .call _ s x k, a', l => ∃ r, s.fn x = some r ∧ (k r).EvF fE fH a' l

/-- Two states that agree where something is read. -/
def Agree (l : List Loc) (fE fE' : Nat → Option SV) (fH fH' : Nat → Option Blk) : Prop := (∀ t, Loc.tmp t ∈ l → fE' t = fE t) ∧ ∀ i, Loc.blk i ∈ l → fH' i = fH i

theorem RM.EvF.ev {fE fE' : Nat → Option SV} {fH fH' : Nat → Option Blk} {m : RM α} {a : α} {l : List Loc} (h : m.EvF fE fH a l) (hg : Agree l fE fE' fH fH') : m.Ev fE' fH' a := by
  induction m generalizing l with
  | ret a => exact h.1
  | fail => exact h
  | tmp t k ih =>
    obtain ⟨sv, l', h1, rfl, h2⟩ := h
    exact ⟨sv, by rw [hg.1 t (by simp)]; exact h1, ih sv h2 ⟨fun t q => hg.1 t (by simp [q]), fun i q => hg.2 i (by simp [q])⟩⟩
  | blk i k ih =>
    obtain ⟨b, l', h1, rfl, h2⟩ := h
    exact ⟨b, by rw [hg.2 i (by simp)]; exact h1, ih b h2 ⟨fun t q => hg.1 t (by simp [q]), fun i q => hg.2 i (by simp [q])⟩⟩
  | br b x y ihx ihy =>
    rcases h with ⟨hb, h⟩ | ⟨hb, h⟩
    · exact .inl ⟨hb, ihx h hg⟩
    · exact .inr ⟨hb, ihy h hg⟩
  | call f s x k ih =>
    obtain ⟨r, h1, h2⟩ := h
    exact ⟨r, h1, ih r h2 hg⟩

variable {Λ : Nat → List SV → List Blk → Option R} {r : R}

theorem RM.dec_run {st : St} {m : RM α} {k : α → Dec R} (h : (m.dec st k).run Λ = some r) : ∃ a, m.Ev st.fE st.fH a ∧ (k a).run Λ = some r := by
  induction m with
  | ret a => exact ⟨a, rfl, h⟩
  | fail => simp [RM.dec, Dec.run] at h
  | tmp t f ih =>
    simp only [RM.dec] at h
    split at h
    · rename_i sv hsv
      obtain ⟨a, h1, h2⟩ := ih sv h
      exact ⟨a, ⟨sv, hsv, h1⟩, h2⟩
    · simp [Dec.run] at h
  | blk i f ih =>
    simp only [RM.dec] at h
    split at h
    · rename_i b hb
      obtain ⟨a, h1, h2⟩ := ih b h
      exact ⟨a, ⟨b, hb, h1⟩, h2⟩
    · simp [Dec.run] at h
  | br b x y ihx ihy =>
    simp only [RM.dec, Dec.run] at h
    cases b with
    | true => obtain ⟨a, h1, h2⟩ := ihx h; exact ⟨a, .inl ⟨rfl, h1⟩, h2⟩
    | false => obtain ⟨a, h1, h2⟩ := ihy h; exact ⟨a, .inr ⟨rfl, h1⟩, h2⟩
  | call f s x g ih =>
    simp only [RM.dec, Dec.run] at h
    obtain ⟨q, h1, h2⟩ := Option.bind_eq_some_iff.1 h
    obtain ⟨a, h3, h4⟩ := ih q h2
    exact ⟨a, ⟨q, h1, h3⟩, h4⟩

theorem RM.decF_run {st : St} {m : RM α} : ∀ {k : α → List Loc → Dec R}, (m.decF st k).run Λ = some r → ∃ a l, m.EvF st.fE st.fH a l ∧ (k a l).run Λ = some r := by
  induction m with
  | ret a => intro k h; exact ⟨a, [], ⟨rfl, rfl⟩, h⟩
  | fail => intro k h; simp [RM.decF, Dec.run] at h
  | tmp t f ih =>
    intro k h
    simp only [RM.decF] at h
    split at h
    · rename_i sv hsv
      obtain ⟨a, l, h1, h2⟩ := ih sv h
      exact ⟨a, _, ⟨sv, l, hsv, rfl, h1⟩, h2⟩
    · simp [Dec.run] at h
  | blk i f ih =>
    intro k h
    simp only [RM.decF] at h
    split at h
    · rename_i b hb
      obtain ⟨a, l, h1, h2⟩ := ih b h
      exact ⟨a, _, ⟨b, l, hb, rfl, h1⟩, h2⟩
    · simp [Dec.run] at h
  | br b x y ihx ihy =>
    intro k h
    simp only [RM.decF, Dec.run] at h
    cases b with
    | true => obtain ⟨a, l, h1, h2⟩ := ihx h; exact ⟨a, l, .inl ⟨rfl, h1⟩, h2⟩
    | false => obtain ⟨a, l, h1, h2⟩ := ihy h; exact ⟨a, l, .inr ⟨rfl, h1⟩, h2⟩
  | call f s x g ih =>
    intro k h
    simp only [RM.decF, Dec.run] at h
    obtain ⟨q, h1, h2⟩ := Option.bind_eq_some_iff.1 h
    obtain ⟨a, l, h3, h4⟩ := ih q h2
    exact ⟨a, l, ⟨q, h1, h3⟩, h4⟩

/-! ### Lists of operations -/
def putE (d : Option Nat) (v : SV) (E : List (Nat × SV)) : List (Nat × SV) := match d with | some d => (d, v) :: E | none => E

def dstOk (n : Nat) : Option Nat → Bool
  | some d => decide (d < n)
  | none => true

/-- The slot that an operation's guard asks. -/
def guardTmp (ops : Array Oper) (g : Nat) : Option Nat := (ops[g]?).bind (·.dst)

/-- What becomes of the state. -/
def St.aft (st : St) (d : Option Nat) (e : Eff) : St := ⟨putE d e.dst st.E, pushW e.wr st.H, st.nx⟩

def St.fix (st : St) (t : Nat) (c : Bool) : St := ⟨(t, .val (.one (.bool c))) :: st.E, st.H, st.nx⟩
def St.skip (st : St) (d : Option Nat) : St := ⟨putE d (.val (.one .undef)) st.E, st.H, st.nx⟩

def pxOps (P : Program) (Γ : FuncId → Option Sig) (n : Nat) (ops : Array Oper) : List Oper → Nat → St → (St → Dec R) → Dec R
  | [], _, st, k => k st
  | o :: l, j, st, k => match dstOk n o.dst with
    | false => .fail
    | true => (match o.guard with
      | none => (aopT P Γ (st.nx + 32 * j) o).dec st fun e => pxOps P Γ n ops l (j + 1) (st.aft o.dst e) k
      | some (g, want) => (match guardTmp ops g with
        | none => .fail
        | some t => (match st.fE t with
          | some (.val (.one (.bool b))) =>
            let go : Bool → Dec R := fun c => match c == want with
              | true => (aopT P Γ (st.nx + 32 * j) o).dec (st.fix t c) fun e => pxOps P Γ n ops l (j + 1) ((st.fix t c).aft o.dst e) k
              | false => pxOps P Γ n ops l (j + 1) ((st.fix t c).skip o.dst) k
            .br b (go true) (go false)
          | some (.val (.one .undef)) => pxOps P Γ n ops l (j + 1) (st.skip o.dst) k
          | _ => .fail)))

/-- The same, with what each operation reads and writes. -/
structure FP where
  j : Nat
  rd : List Loc
  wr : List Loc

def wrLocs (d : Option Nat) (wr : List (Nat × Option Blk)) : List Loc := (match d with | some d => [.tmp d] | none => []) ++ wr.map fun p => .blk p.1

def pxOpsF (P : Program) (Γ : FuncId → Option Sig) (n : Nat) (ops : Array Oper) : List Oper → Nat → St → List FP → (St → List FP → Dec R) → Dec R
  | [], _, st, fs, k => k st fs
  | o :: l, j, st, fs, k => match dstOk n o.dst with
    | false => .fail
    | true => (match o.guard with
      | none => (aopT P Γ (st.nx + 32 * j) o).decF st fun e rd => pxOpsF P Γ n ops l (j + 1) (st.aft o.dst e) (⟨j, rd, wrLocs o.dst e.wr⟩ :: fs) k
      | some (g, want) => (match guardTmp ops g with
        | none => .fail
        | some t => (match st.fE t with
          | some (.val (.one (.bool b))) =>
            let go : Bool → Dec R := fun c => match c == want with
              | true => (aopT P Γ (st.nx + 32 * j) o).decF (st.fix t c) fun e rd => pxOpsF P Γ n ops l (j + 1) ((st.fix t c).aft o.dst e) (⟨j, .tmp t :: rd, wrLocs o.dst e.wr⟩ :: fs) k
              | false => pxOpsF P Γ n ops l (j + 1) ((st.fix t c).skip o.dst) (⟨j, [.tmp t], wrLocs o.dst []⟩ :: fs) k
            .br b (go true) (go false)
          | some (.val (.one .undef)) => pxOpsF P Γ n ops l (j + 1) (st.skip o.dst) (⟨j, [.tmp t], wrLocs o.dst []⟩ :: fs) k
          | _ => .fail)))

end
end Go.Proofs.YtkdohmgacodhjaaPx
