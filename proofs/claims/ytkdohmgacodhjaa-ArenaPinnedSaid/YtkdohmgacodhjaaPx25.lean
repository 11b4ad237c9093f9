/- What a row's arguments are, in the evaluator's words; no condition. -/
import Derived.Test.YtkdohmgacodhjaaPx24
import Derived.WalkKit
import Derived.ProofKit
import Derived.OpenShut
import Derived.Below
import Derived.Carry
set_option linter.unusedVariables false
set_option linter.unusedSimpArgs false
namespace Go.Proofs.YtkdohmgacodhjaaPx
open Go.RowKit

/-- Numbers in their range, slices no longer than Go's. -/
def InR : (t : Ty) → t.D → Prop
  | .int, n => (-9223372036854775808 : Int) ≤ n ∧ n ≤ (9223372036854775807 : Int)
  | .bool, _ => True
  | .pair a b, x => InR a x.1 ∧ InR b x.2
  | .sl t, xs => List.length xs ≤ 9223372036854775807 ∧ ∀ x ∈ (show List t.D from xs), InR t x
  | .ref t, x => InR t x
  | .clo _ t, x => InR t x
  | .fn _, _ => True
  | .num _, _ => True

def InRT : (l : List VT) → Tup l → Prop
  | [], _ => True
  | [a], x => InR a.t x
  | a :: b :: l, x => InR a.t x.1 ∧ InRT (b :: l) x.2

def rdFs (P : Program) (f : TypeId → Ty → Bool) : Nat → List Field → Ty → Bool
  | _, [], _ => false
  | o, [x], ty => Nat.beq x.offset o && (Nat.beq (P.cellsOf x.type) ty.size && f x.type ty)
  | o, x :: y :: xs, .pair a b => Nat.beq x.offset o && (Nat.beq (P.cellsOf x.type) a.size && (f x.type a && rdFs P f (o + a.size) (y :: xs) b))
  | _, _ :: _ :: _, _ => false

def rdArr (f : Ty → Bool) (sz : Nat) : Nat → Ty → Bool
  | 0, _ => false
  | 1, ty => Nat.beq sz ty.size && f ty
  | n + 2, .pair a b => Nat.beq sz a.size && (f a && rdArr f sz (n + 1) b)
  | _ + 2, _ => false

def rdOk (P : Program) : Nat → TypeId → Ty → Bool
  | 0, _, _ => false
  | d + 1, t, ty => match P.underlying t with
    | some (.int .i64) => (match ty with | .int => true | _ => false)
    | some .bool => (match ty with | .bool => true | _ => false)
    | some (.slice e) => (match ty with | .sl t' => Nat.beq (P.cellsOf e) t'.size && rdOk P d e t' | _ => false)
    | some (.struct fs) => Nat.beq (P.cellsOf t) ty.size && rdFs P (rdOk P d) 0 fs.toList ty
    | some (.array n e) => Nat.beq (P.cellsOf t) ty.size && rdArr (rdOk P d e) (P.cellsOf e) n ty
    | _ => false

section
variable {H : Type} {enc : TypeId × Value → H} {P : Program} {w : World} {sp : Nat → Bool} {ρ : Nat → Option Value}

abbrev Tt : Nat → Prop := fun _ => True

theorem take_two {α : Type} (l : List α) (o a b : Nat) : (l.drop o).take (a + b) = (l.drop o).take a ++ (l.drop (o + a)).take b := by
  rw [List.take_add, List.drop_drop]

theorem rdFs_sound {d m : Nat} {cs : List Value} (ih : ∀ (t : TypeId) (ty : Ty) (fuel : Nat) (cs : List Value) (x : DataW H × List MemPlace), rdOk P d t ty = true → DataW.trod enc P w 0 sp true fuel t cs = some x → ∃ y : ty.D, InR ty y ∧ DenL Tt w ρ (ty.cells y) cs) :
    ∀ (fs : List Field) (o : Nat) (ty : Ty), rdFs P (rdOk P d) o fs ty = true → (∀ f ∈ fs, ∃ x, DataW.trod enc P w 0 sp true m f.type ((cs.drop f.offset).take (P.cellsOf f.type)) = some x) → ∃ y : ty.D, InR ty y ∧ DenL Tt w ρ (ty.cells y) ((cs.drop o).take ty.size)
  | [], o, ty, h, _ => by simp [rdFs] at h
  | [x], o, ty, h, hf => by
    simp only [rdFs, Bool.and_eq_true] at h
    obtain ⟨h1, h2, h3⟩ := h
    obtain ⟨z, hz⟩ := hf x (by simp)
    rw [Nat.eq_of_beq_eq_true h1, Nat.eq_of_beq_eq_true h2] at hz
    exact ih _ _ _ _ _ h3 hz
  | x :: y :: xs, o, ty, h, hf => by
    cases ty with
    | pair a b =>
      simp only [rdFs, Bool.and_eq_true] at h
      obtain ⟨h1, h2, h3, h4⟩ := h
      obtain ⟨z, hz⟩ := hf x (by simp)
      rw [Nat.eq_of_beq_eq_true h1, Nat.eq_of_beq_eq_true h2] at hz
      obtain ⟨u, hu1, hu2⟩ := ih _ _ _ _ _ h3 hz
      obtain ⟨v, hv1, hv2⟩ := rdFs_sound ih (y :: xs) (o + a.size) b h4 (fun f hf' => hf f (List.mem_cons_of_mem _ hf'))
      refine ⟨(u, v), ⟨hu1, hv1⟩, ?_⟩
      show DenL Tt w ρ (a.cells u ++ b.cells v) ((cs.drop o).take (a.size + b.size))
      rw [take_two]
      exact hu2.append hv2
    | int => simp [rdFs] at h
    | bool => simp [rdFs] at h
    | sl t => simp [rdFs] at h
    | ref t => simp [rdFs] at h
    | clo g t => simp [rdFs] at h
    | fn g => simp [rdFs] at h
    | num k => simp [rdFs] at h

theorem rdArr_sound {d m : Nat} {e : TypeId} {cs : List Value} (ih : ∀ (t : TypeId) (ty : Ty) (fuel : Nat) (cs : List Value) (x : DataW H × List MemPlace), rdOk P d t ty = true → DataW.trod enc P w 0 sp true fuel t cs = some x → ∃ y : ty.D, InR ty y ∧ DenL Tt w ρ (ty.cells y) cs) :
    ∀ (n o : Nat) (ty : Ty), rdArr (rdOk P d e) (P.cellsOf e) n ty = true → (∀ i, i < n → ∃ x, DataW.trod enc P w 0 sp true m e ((cs.drop ((o + i) * P.cellsOf e)).take (P.cellsOf e)) = some x) → ∃ y : ty.D, InR ty y ∧ DenL Tt w ρ (ty.cells y) ((cs.drop (o * P.cellsOf e)).take ty.size)
  | 0, o, ty, h, _ => by simp [rdArr] at h
  | 1, o, ty, h, hf => by
    simp only [rdArr, Bool.and_eq_true] at h
    obtain ⟨h2, h3⟩ := h
    obtain ⟨z, hz⟩ := hf 0 (by omega)
    rw [Nat.add_zero] at hz
    obtain ⟨y, hy1, hy2⟩ := ih _ _ _ _ _ h3 hz
    exact ⟨y, hy1, by rw [← Nat.eq_of_beq_eq_true h2]; exact hy2⟩
  | n + 2, o, ty, h, hf => by
    cases ty with
    | pair a b =>
      simp only [rdArr, Bool.and_eq_true] at h
      obtain ⟨h2, h3, h4⟩ := h
      obtain ⟨z, hz⟩ := hf 0 (by omega)
      rw [Nat.add_zero] at hz
      obtain ⟨u, hu1, hu2⟩ := ih _ _ _ _ _ h3 hz
      obtain ⟨v, hv1, hv2⟩ := rdArr_sound ih (n + 1) (o + 1) b h4 (fun i hi => by
        have := hf (i + 1) (by omega)
        rw [show o + (i + 1) = o + 1 + i by omega] at this
        exact this)
      refine ⟨(u, v), ⟨hu1, hv1⟩, ?_⟩
      show DenL Tt w ρ (a.cells u ++ b.cells v) ((cs.drop (o * P.cellsOf e)).take (a.size + b.size))
      rw [take_two]
      rw [Nat.add_mul, Nat.one_mul] at hv2
      have e1 := Nat.eq_of_beq_eq_true h2
      rw [← e1]
      exact hu2.append hv2
    | int => simp [rdArr] at h
    | bool => simp [rdArr] at h
    | sl t => simp [rdArr] at h
    | ref t => simp [rdArr] at h
    | clo g t => simp [rdArr] at h
    | fn g => simp [rdArr] at h
    | num k => simp [rdArr] at h

theorem DenC_first {A : Nat → Prop} : ∀ (t : Ty) (x : t.D) (g : Nat → Option Value), DenC A w t x g → ∃ v, g 0 = some v
  | .int, _, _, h => ⟨_, h⟩
  | .bool, _, _, h => ⟨_, h⟩
  | .pair a _, x, g, h => DenC_first a x.1 g h.1
  | .sl _, _, _, ⟨_, _, h0, _⟩ => ⟨_, h0⟩
  | .ref _, _, _, ⟨_, _, h0, _⟩ => ⟨_, h0⟩
  | .clo _ _, _, _, ⟨_, h0, _⟩ => ⟨_, h0⟩
  | .fn _, _, _, h => ⟨_, h⟩
  | .num _, _, _, h => ⟨_, h⟩

theorem listOf {α β : Type} {R : α → β → Prop} : ∀ (n : Nat) (f : Nat → β), (∀ i, i < n → ∃ x, R x (f i)) → ∃ xs : List α, xs.length = n ∧ ∀ i (h : i < xs.length), R (xs[i]'h) (f i)
  | 0, f, _ => ⟨[], rfl, fun i h => by simp at h⟩
  | n + 1, f, h => by
    obtain ⟨x, hx⟩ := h 0 (by omega)
    obtain ⟨xs, h1, h2⟩ := listOf n (fun i => f (i + 1)) (fun i hi => h (i + 1) (by omega))
    refine ⟨x :: xs, by simp [h1], fun i hi => ?_⟩
    cases i with
    | zero => exact hx
    | succ i => exact h2 i (by simpa using hi)

theorem rd_sound : ∀ (d : Nat) (t : TypeId) (ty : Ty) (fuel : Nat) (cs : List Value) (x : DataW H × List MemPlace), rdOk P d t ty = true → DataW.trod enc P w 0 sp true fuel t cs = some x → ∃ y : ty.D, InR ty y ∧ DenL Tt w ρ (ty.cells y) cs
  | 0, t, ty, fuel, cs, x, h, _ => by simp [rdOk] at h
  | d + 1, t, ty, fuel, cs, x, h, hx => by
    unfold rdOk at h
    split at h
    · rename_i hu
      split at h
      · obtain ⟨n, rfl, rfl, hw⟩ := DataW.trod_int hu hx
        exact ⟨n, bounds_i64 hw, rfl, trivial⟩
      · cases h
    · rename_i hu
      split at h
      · obtain ⟨b, rfl, rfl⟩ := DataW.trod_bool hu hx
        exact ⟨b, trivial, rfl, trivial⟩
      · cases h
    · rename_i e hu
      split at h
      · rename_i t'
        simp only [Bool.and_eq_true] at h
        obtain ⟨h1, h2⟩ := h
        have h1 := Nat.eq_of_beq_eq_true h1
        rcases DataW.trod_slice hu hx with ⟨rfl, _⟩ | ⟨a, len, cap, elems, rest, m, rfl, rfl, rfl, hb, hl, hm, hlen, hel, _, _⟩
        · exact ⟨[], ⟨by simp, fun x hx => by simp at hx⟩, ⟨none, 0, rfl, Nat.le_refl _, fun h => absurd h (by simp)⟩, trivial⟩
        · have each : ∀ i, i < len → ∃ y : t'.D, InR t' y ∧ DenC Tt w t' y (fun j => w.cell? (a.add (i * t'.size + j))) := by
            intro i hi
            have he := hel i hi
            rw [List.getElem?_eq_getElem (by omega)] at he
            obtain ⟨cs, hcs, hy⟩ := Option.bind_eq_some_iff.1 he
            obtain ⟨y, hy1, hy2⟩ := rd_sound d e t' _ _ _ h2 hy
            obtain ⟨_, hcl, hcc⟩ := World.cells?_some hcs
            refine ⟨y, hy1, DenC.step Step.refl t' y _ _ (fun j v hj ej => ?_) (DenC.of_list t' y cs hy2)⟩
            have := hcc j (by rw [h1]; exact hj)
            rw [Addr.add_add, h1] at this
            show w.cell? (a.add (i * t'.size + j)) = some v
            rw [this]; exact ej
          obtain ⟨ys, hyl, hys⟩ := listOf len (fun i => i) (R := fun (y : t'.D) i => InR t' y ∧ DenC Tt w t' y (fun j => w.cell? (a.add (i * t'.size + j)))) each
          refine ⟨ys, ⟨by rw [hyl]; exact Nat.le_trans hl hm, fun y hy => ?_⟩, ⟨some a, cap, by rw [hyl], by rw [hyl]; exact hl, fun hp => ?_⟩, trivial⟩
          · obtain ⟨i, hi, rfl⟩ := List.getElem_of_mem hy
            exact (hys i hi).1
          · obtain ⟨v, hv⟩ := DenC_first _ _ _ (hys 0 hp).2
            have hsp := World.cell?_spot hv
            obtain ⟨b, o, spot⟩ := a
            have : spot = none := by
              simpa [Addr.add] using hsp
            subst this
            refine ⟨b, o, rfl, trivial, fun i hi => ?_⟩
            have := (hys i hi).2
            simp only [Go.WideShapes.add_plain] at this
            exact this
      · cases h
    · rename_i fs hu
      simp only [Bool.and_eq_true] at h
      obtain ⟨xs, m, rfl, rfl, hl, hxl, hf⟩ := DataW.trod_struct hu hx
      obtain ⟨y, hy1, hy2⟩ := rdFs_sound (ρ := ρ) (m := m) (cs := cs) (rd_sound d) fs.toList 0 ty h.2 (fun f hf' => by
        obtain ⟨i, hi⟩ := List.mem_iff_getElem?.1 hf'
        have hi' : fs[i]? = some f := by simpa using hi
        have hlt : i < xs.length := by rw [hxl]; exact (Array.getElem?_eq_some_iff.1 hi').1
        exact ⟨xs[i], by rw [hf i f hi', List.getElem?_eq_getElem hlt]⟩)
      refine ⟨y, hy1, ?_⟩
      rw [List.drop_zero, List.take_of_length_le (by rw [hl, Nat.eq_of_beq_eq_true h.1]; exact Nat.le_refl _)] at hy2
      exact hy2
    · rename_i n e hu
      simp only [Bool.and_eq_true] at h
      obtain ⟨xs, m, rfl, rfl, hl, hxl, hf⟩ := DataW.trod_array hu hx
      obtain ⟨y, hy1, hy2⟩ := rdArr_sound (ρ := ρ) (m := m) (cs := cs) (rd_sound d) n 0 ty h.2 (fun i hi => by
        rw [Nat.zero_add]
        exact ⟨xs[i], by rw [hf i hi, List.getElem?_eq_getElem (by omega)]⟩)
      refine ⟨y, hy1, ?_⟩
      rw [Nat.zero_mul, List.drop_zero, List.take_of_length_le (by rw [hl, Nat.eq_of_beq_eq_true h.1]; exact Nat.le_refl _)] at hy2
      exact hy2
    · cases h

theorem okWide_base {base : Nat} {t : TypeId} {v : Value} (h : Value.okWide P w .any base t v) : Value.okWide P w .any 0 t v := by
  have key : ∀ {t : TypeId} {v : Value}, Cell.okWide P w .any base t v → Cell.okWide P w .any 0 t v := by
    intro t v h
    unfold Cell.okWide Cell.ok at h ⊢
    exact h
  unfold Value.okWide at h ⊢
  split
  · rename_i hu; rw [hu] at h; obtain ⟨cs, h1, h2, ts, h3, h4, h5⟩ := h; exact ⟨cs, h1, h2, ts, h3, h4, fun i v e => let ⟨u, g1, g2⟩ := h5 i v e; ⟨u, g1, key g2⟩⟩
  · rename_i hu; rw [hu] at h; obtain ⟨cs, h1, h2, ts, h3, h4, h5⟩ := h; exact ⟨cs, h1, h2, ts, h3, h4, fun i v e => let ⟨u, g1, g2⟩ := h5 i v e; ⟨u, g1, key g2⟩⟩
  · rename_i n1 n2
    split at h
    · rename_i hu; exact absurd hu (n1 _)
    · rename_i hu; exact absurd hu (n2 _ _)
    · exact key h

/-- The types of a function's parameters read as these. -/
def rdAll (P : Program) : List TypeId → List VT → Bool
  | [], [] => true
  | t :: ts, v :: vs => rdOk P 8 t v.t && ((match isAggT P t with | some b => b == v.agg | none => false) && rdAll P ts vs)
  | _, _ => false

theorem okWide_shape {r : Reach} {base : Nat} {t : TypeId} {v : Value} {d : Nat} {ty : Ty} (hr : rdOk P (d + 1) t ty = true) (h : Value.okWide P w r base t v) :
    (isAggT P t = some true ∧ ∃ cs, v = .agg cs) ∨ (isAggT P t = some false ∧ v.cells = #[v]) := by
  unfold rdOk at hr
  unfold Value.okWide at h
  unfold isAggT
  split at hr
  · rename_i hu
    rw [hu] at h
    refine .inr ⟨by rw [hu]; rfl, ?_⟩
    simp only [Cell.okWide, hu] at h
    cases v <;> simp_all [Cell.ok, Value.cells]
  · rename_i hu
    rw [hu] at h
    refine .inr ⟨by rw [hu]; rfl, ?_⟩
    simp only [Cell.okWide, hu] at h
    cases v <;> simp_all [Cell.ok, Value.cells]
  · rename_i e hu
    rw [hu] at h
    refine .inr ⟨by rw [hu]; rfl, ?_⟩
    simp only [Cell.okWide, hu] at h
    cases v <;> simp_all [Cell.ok, Value.cells]
  · rename_i fs hu
    rw [hu] at h
    obtain ⟨cs, hv, _⟩ := h
    exact .inl ⟨by rw [hu]; rfl, cs, hv⟩
  · rename_i n e hu
    rw [hu] at h
    obtain ⟨cs, hv, _⟩ := h
    exact .inl ⟨by rw [hu]; rfl, cs, hv⟩
  · cases hr

theorem rd_value {t : TypeId} {v : VT} {u : Value} {b : DataW H} {p : List MemPlace} {r : Reach} {base : Nat} (h : rdOk P 8 t v.t = true) (ha : (match isAggT P t with | some b => b == v.agg | none => false) = true)
    (hok : Value.okWide P w r base t u) (hd : DataW.Trod enc P w 0 sp true t u b p) : ∃ y : v.t.D, InR v.t y ∧ (v.enc y).Den Tt w ρ u := by
  obtain ⟨fuel, hf⟩ := hd
  obtain ⟨y, hy1, hy2⟩ := rd_sound (ρ := ρ) 8 t v.t fuel _ _ h hf
  refine ⟨y, hy1, ?_⟩
  unfold VT.enc
  rcases okWide_shape (d := 7) h hok with ⟨h1, cs, rfl⟩ | ⟨h1, h2⟩
  · rw [h1] at ha
    have : v.agg = true := by simpa using ha
    rw [if_pos this]
    exact ⟨cs.toList, by simp, hy2⟩
  · rw [h1] at ha
    have : v.agg = false := by simpa using ha
    rw [if_neg (by simp [this])]
    rw [h2] at hy2
    generalize v.t.cells y = cs at hy2
    cases cs with
    | nil => exact hy2.elim
    | cons s r =>
      cases r with
      | nil => exact hy2.1
      | cons => exact hy2.2.elim

theorem rd_all : ∀ (ts : List TypeId) (l : List VT) (us : List Value) (ds : List (DataW H)) (ps : List MemPlace), rdAll P ts l = true → (∀ (j : Nat) t v, ts[j]? = some t → us[j]? = some v → Value.okWide P w .any 0 t v) →
    DataW.TrodAll enc P w 0 sp true ts us ds ps → ∃ x : Tup l, InRT l x ∧ DenVs Tt w ρ (encTup l x) us
  | [], [], [], [], ps, _, _, _ => ⟨(), trivial, trivial⟩
  | t :: ts, v :: l, u :: us, d :: ds, ps, h, hok, hd => by
    simp only [rdAll, Bool.and_eq_true] at h
    obtain ⟨p, q, h1, h2, _⟩ := hd
    obtain ⟨y, hy1, hy2⟩ := rd_value (ρ := ρ) (v := v) h.1 h.2.1 (hok 0 t u rfl rfl) h1
    obtain ⟨x, hx1, hx2⟩ := rd_all ts l us ds q h.2.2 (fun j t v e1 e2 => hok (j + 1) t v (by simpa using e1) (by simpa using e2)) h2
    cases l with
    | nil =>
      cases us with
      | nil => exact ⟨y, hy1, hy2, trivial⟩
      | cons => exact hx2.elim
    | cons v' l => exact ⟨(y, x), ⟨hy1, hx1⟩, hy2, hx2⟩
  | [], _ :: _, _, _, _, h, _, _ => by simp [rdAll] at h
  | _ :: _, [], _, _, _, h, _, _ => by simp [rdAll] at h
  | [], [], _ :: _, _, _, _, _, h => h.elim
  | [], [], [], _ :: _, _, _, _, h => h.elim
  | _ :: _, _ :: _, [], _, _, _, _, h => h.elim
  | _ :: _, _ :: _, _ :: _, [], _, _, _, h => h.elim

/-- Every argument reads as it did. -/
def kept (P : Program) : List TypeId → Bool
  | [] => true
  | t :: ts => P.readableRec t && (decide (t < P.types.size) && kept P ts)

theorem kept_all (hl : laidOutB P = true) {W W' : World} (hb : Below W.heap.size W W') : ∀ (ts : List TypeId) (us : List Value) (ds : List (DataW H)) (ps : List MemPlace), kept P ts = true → (∀ x ∈ ps, x.block < W.heap.size) →
    DataW.TrodAll enc P W 0 (fun _ => true) true ts us ds ps → DataW.TrodAll enc P W' 0 (fun b => decide (b < W.heap.size)) true ts us ds ps
  | [], [], [], ps, _, _, h => h
  | t :: ts, u :: us, d :: ds, ps, h, hlt, hd => by
    simp only [kept, Bool.and_eq_true] at h
    obtain ⟨p, q, h1, h2, rfl⟩ := hd
    exact ⟨p, q, Below.trod hl h.1 (of_decide_eq_true h.2.1) h1 hb (fun x hx => hlt x (by simp [hx])), kept_all hl hb ts us ds q h.2.2 (fun x hx => hlt x (by simp [hx])) h2, rfl⟩
  | [], _ :: _, _, _, _, _, h => h.elim
  | [], [], _ :: _, _, _, _, h => h.elim
  | _ :: _, [], _, _, _, _, h => h.elim
  | _ :: _, _ :: _, [], _, _, _, h => h.elim

/-- A law that is true. -/
theorem law_calls {f : FuncId} {l : List VT} {g : Tup l → Option Bool} (hs : SigOk P f ⟨l, [⟨false, .bool⟩], false, g⟩) {x : Tup l} (hx : g x = some true) {us : List Value} {W : World} (hd : DenVs Tt W noρ (encTup l x) us) :
    Calls P f us.toArray W fun e W' => e = .returned (.bool true) ∧ Below W.heap.size W W' := by
  refine (hs (fun _ => True) W x true us hx (fun _ _ => trivial) hd).mono ?_
  rintro e W' ⟨v, rfl, hb, hres⟩
  obtain ⟨ρ, _, _, _, h⟩ := hres 0
  have : v = .bool true := h
  rw [this]
  exact ⟨rfl, hb⟩
end
end Go.Proofs.YtkdohmgacodhjaaPx
