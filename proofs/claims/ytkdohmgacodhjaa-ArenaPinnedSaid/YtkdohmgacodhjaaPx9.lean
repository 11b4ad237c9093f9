/- Rows made, cut and appended to: each operation leaves what 'aop' says; no condition. -/
import Derived.Test.YtkdohmgacodhjaaPx8
import Derived.Laws.MakeOwn
import Derived.Laws.Append
set_option linter.unusedVariables false
set_option linter.unusedSimpArgs false
namespace Go.Proofs.YtkdohmgacodhjaaPx
open Go.RowKit

section
variable {S : Nat → Prop} {w0 : World} {n : Nat} {fr fr' : Nat → Prop} {fE : Nat → Option SV} {fH fH' : Nat → Option Blk} {ρ : Nat → Option Value} {a : Act} {w w' : World} {P : Program}

/-- A row gets another name (and maybe another content): the elder name is let go. -/
theorem Holds.rename (h : Holds S w0 n fr fE fH ρ a w) {i id b : Nat} {blk blk' : Blk} {v v' : Value} (hi : fH i = some blk) (hv : ρ i = some v) (hid : fr id) (hb : ownB v = some b) (hb' : ownB v' = some b)
    (hw : ∀ k, k ≠ b → w'.heap[k]? = w.heap[k]?) (hos : w'.os = w.os) (ht : w'.tape = w.tape) (ho : w'.output = w.output) (hsz : w'.heap.size = w.heap.size)
    (hok : Step (Al S fH ρ) w (Al S (upd (upd fH i none) id (some blk')) (upd ρ id (some v'))) w' → blk'.Ok w0.heap.size (Al S (upd (upd fH i none) id (some blk')) (upd ρ id (some v'))) w' (upd ρ id (some v')) v') :
    Holds S w0 n (fun j => fr j ∧ j ≠ id) fE (upd (upd fH i none) id (some blk')) (upd ρ id (some v')) a w' := by
  have hne : i ≠ id := fun e => by rw [e, (h.fresh id hid).2] at hi; simp at hi
  have he : Ext ρ (upd ρ id (some v')) := Ext.upd_fresh (h.fresh id hid).1 v'
  have hs : Step (Al S fH ρ) w (Al S (upd (upd fH i none) id (some blk')) (upd ρ id (some v'))) w' := by
    intro c q u ha hu
    have hcb : c ≠ b := fun e => ha.2 i blk v hi hv (by rw [hb, e])
    refine ⟨⟨ha.1, fun j bj vj ej eρ => ?_⟩, by rw [cell_eq (hw c hcb)]; exact hu⟩
    by_cases hj : j = id
    · subst hj
      rw [upd_same] at eρ
      obtain rfl := Option.some.inj eρ
      rw [hb']
      simpa using fun e : b = c => hcb e.symm
    · rw [upd_other _ _ hj] at ej eρ
      by_cases hji : j = i
      · subst hji; simp [upd] at ej
      · rw [upd_other _ _ hji] at ej
        exact ha.2 j bj vj ej eρ
  obtain ⟨v1, hv1, hok0⟩ := h.blks i blk hi
  rw [hv] at hv1
  obtain rfl := Option.some.inj hv1
  have hB := (hok0.lt hb).2
  refine ⟨h.size, h.defers, fun t sv e => ⟨(h.tmps t sv e).1, (h.tmps t sv e).2.step hs he⟩, fun j bj e => ?_, fun j k bj bk vj vk c hne' ej ek eρj eρk hbj => ?_, fun j ⟨e, hj⟩ => ?_, ⟨hos.trans h.below.os, ht.trans h.below.tape, ho.trans h.below.output, by rw [hsz]; exact h.base, fun k hk => by rw [hw k (by omega)]; exact h.below.block k hk⟩, h.new, fun j u e => ?_⟩
  · by_cases hj : j = id
    · subst hj
      rw [upd_same] at e
      obtain rfl := Option.some.inj e
      exact ⟨v', upd_same _ _ _, hok hs⟩
    · rw [upd_other _ _ hj] at e
      by_cases hji : j = i
      · subst hji; simp [upd] at e
      · rw [upd_other _ _ hji] at e
        obtain ⟨u, h1, h2⟩ := h.blks j bj e
        exact ⟨u, he _ _ h1, h2.step hs he fun c e' => hw c fun e'' => h.inj i j blk bj v u b (fun q => hji q.symm) hi e hv h1 hb (by rw [e', e''])⟩
  · have old : ∀ {m bm}, upd (upd fH i none) id (some blk') m = some bm → m ≠ id → fH m = some bm ∧ m ≠ i := by
      intro m bm e hm
      rw [upd_other _ _ hm] at e
      by_cases hmi : m = i
      · subst hmi; simp [upd] at e
      · rw [upd_other _ _ hmi] at e
        exact ⟨e, hmi⟩
    by_cases hj : j = id
    · by_cases hk : k = id
      · exact absurd (hj.trans hk.symm) hne'
      · subst hj
        rw [upd_same] at eρj
        have e1 := Option.some.inj eρj
        subst e1
        rw [upd_other _ _ hk] at eρk
        obtain ⟨ek2, hki⟩ := old ek hk
        rw [hb'] at hbj
        have e2 := Option.some.inj hbj
        rw [← e2]
        exact h.inj i k blk bk v vk b (fun q => hki q.symm) hi ek2 hv eρk hb
    · rw [upd_other _ _ hj] at eρj
      obtain ⟨ej2, hji⟩ := old ej hj
      by_cases hk : k = id
      · subst hk
        rw [upd_same] at eρk
        have e1 := Option.some.inj eρk
        subst e1
        rw [hb']
        intro e
        have e2 := Option.some.inj e
        rw [← e2] at hbj
        exact h.inj i j blk bj v vj b (fun q => hji q.symm) hi ej2 hv eρj hb hbj
      · rw [upd_other _ _ hk] at eρk
        obtain ⟨ek2, hki⟩ := old ek hk
        exact h.inj j k bj bk vj vk c hne' ej2 ek2 eρj eρk hbj
  · rw [upd_other _ _ hj, upd_other _ _ hj]
    refine ⟨(h.fresh j e).1, ?_⟩
    by_cases hji : j = i
    · subst hji; simp [upd]
    · rw [upd_other _ _ hji]; exact (h.fresh j e).2
  · by_cases hj : j = id
    · subst hj
      rw [upd_same] at e
      obtain rfl := Option.some.inj e
      cases v' <;> first | rfl | simp [ownB] at hb'
    · rw [upd_other _ _ hj] at e
      exact h.shape j u e

theorem Ty.size_pos : ∀ t : Ty, 0 < t.size
  | .int | .bool | .sl _ | .ref _ | .clo _ _ | .fn _ | .num _ => Nat.one_pos
  | .pair a b => Nat.lt_of_lt_of_le (Ty.size_pos a) (Nat.le_add_right _ _)

theorem lessF_of {id : Nat} {j : Nat} (q : lessF fr id j) : fr j ∧ j ≠ id := ⟨q.1, fun e => q.2 ⟨by omega, by omega⟩⟩

/-! ### make -/
theorem madeCells_get (z : Array Value) (m j : Nat) (hj : j < m) : (madeCells z m)[j]? = some (z[j % z.size]!) := by
  simp [madeCells, hj]

theorem aMakeSlice_sound (h : Holds S w0 n fr fE fH ρ a w) {id : Nat} (hid : fr id) {t : TypeId} {k : IntKind} {m : Int} {e : Eff} (he : (aMakeSlice P id t k m).Ev fE fH e) :
    Out P S w0 n fr fE fH a w id (nv (Instr.makeSlice t (.int k m) (.int k m))) e := by
  unfold aMakeSlice at he
  split at he
  · rename_i el hu
    split at he
    · rename_i ty sz by' z hty hinf hz
      split at he
      · rename_i y hy
        split at he
        · rename_i hc
          obtain ⟨rfl, hsz, hby⟩ := hc
          rcases he with ⟨h0, he⟩ | ⟨_, he⟩
          · rcases he with ⟨h1, he⟩ | ⟨_, he⟩
            · have h0 := of_decide_eq_true h0
              have h1 := of_decide_eq_true h1
              obtain rfl := he
              obtain ⟨i, v, hi, hzv, hd, _⟩ := zeroOf_den (A := Al S fH ρ) (w := w) (ρ := ρ) hz
              rw [hi] at hinf
              simp only [Option.map_some, Option.some.injEq, Prod.mk.injEq] at hinf
              obtain ⟨hs1, hs2⟩ := hinf
              obtain ⟨v1, v2, hv12, d1, d2⟩ := ofCells_den _ _ _ _ _ hy hd
              have : v2 = [] := by cases v2 with | nil => rfl | cons => exact d2.elim
              subst this
              simp only [List.append_nil] at hv12
              have hzl : v.cells.size = ty.size := by
                have := d1.length
                rw [Ty.cells_length, ← hv12] at this
                simpa using this.symm
              obtain ⟨q, rfl⟩ := Int.eq_ofNat_of_zero_le h0
              have hr := run_make (P := P) w t el i v hu hi hzv .i64 .i64 q q (by omega) (Int.le_refl _) (by rw [hs2]; have : (by' : Int) * q ≤ 256 * 1000000 := Int.mul_le_mul (by omega) h1 (by omega) (by omega); omega) (by omega)
              simp only [Int.toNat_natCast] at hr ⊢
              rw [hs1, hsz] at hr
              have hpos : 0 < ty.size := Ty.size_pos ty
              have := h.new_row hid ty (List.replicate q y) (madeCells v.cells (q * ty.size)) el q (by simp) (by simp [size_madeCells]) (fun i hi => by
                simp only [List.length_replicate] at hi
                rw [List.getElem_replicate]
                refine DenC.step Step.refl ty _ _ _ (fun j u hj e => ?_) (DenC.of_list ty y v1 d1)
                have hb : i * ty.size + j < q * ty.size := by
                  have : (i + 1) * ty.size ≤ q * ty.size := Nat.mul_le_mul_right _ (by omega)
                  rw [Nat.add_mul] at this
                  omega
                rw [madeCells_get _ _ _ hb, hzl, Nat.mul_add_mod_self_right, Nat.mod_eq_of_lt hj]
                rw [← hv12] at e
                have hjl : j < v.cells.size := by omega
                rw [getElem!_pos v.cells j hjl]
                simpa [hjl] using e)
              simp only [List.length_replicate] at this
              exact ⟨_, _, .inl (run_v hr), this⟩
            · exact he.elim
          · exact he.elim
        · exact he.elim
      · exact he.elim
    · exact he.elim
  · exact he.elim
end
end Go.Proofs.YtkdohmgacodhjaaPx
