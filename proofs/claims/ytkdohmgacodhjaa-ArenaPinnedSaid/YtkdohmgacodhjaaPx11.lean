/- append, and what is built: each operation leaves what 'aop' says; no condition. -/
import Derived.Test.YtkdohmgacodhjaaPx10
set_option linter.unusedVariables false
set_option linter.unusedSimpArgs false
namespace Go.Proofs.YtkdohmgacodhjaaPx
open Go.RowKit

section
variable {S : Nat → Prop} {w0 : World} {n : Nat} {fr fr' : Nat → Prop} {fE : Nat → Option SV} {fH fH' : Nat → Option Blk} {ρ : Nat → Option Value} {a : Act} {w w' : World} {P : Program}

/-- Nothing is appended. -/
theorem run_append_empty (t ty e : TypeId) (i : TypeInfo) (ht : P.underlying t = some (.slice e)) (hi : P.info? e = some i) (p q : Option Addr) (m c c' : Nat) (hc : m ≤ c) :
    (Builtin.append_ #[t, t] ty #[.slice p m c, .slice q 0 c']).run P w = .ok (.slice p m c) w := by
  cases p <;> cases q <;> simp [Builtin.append_, GoSem_underlying ht, sizeOf, typeInfo, hi, Builtin.lenOf, hc, Builtin.firstCells, loadCells, loadCellsFrom, storeCells]
where
  GoSem_underlying {t : TypeId} {d : TypeDesc} (h : P.underlying t = some d) : (underlying t).run P w = .ok d w := run_underlying h

/-- There is room. -/
theorem run_append_in (t ty e : TypeId) (i : TypeInfo) (ht : P.underlying t = some (.slice e)) (hi : P.info? e = some i) {b o m c b' o' k c' : Nat} {arr : Array Value} {et : TypeId} (hh : w.heap[b]? = some (.cells arr et (0, 0)))
    (news : List Value) (hl : news.length = k * i.size) (hn : ∀ j u, news[j]? = some u → w.cell? (pl b' (o' + j)) = some u) (h1 : ∀ u ∈ news, u.oneCell' = true) (hroom : m + k ≤ c) (hfit : o + m * i.size + news.length ≤ arr.size) :
    (Builtin.append_ #[t, t] ty #[.slice (some (pl b o)) m c, .slice (some (pl b' o')) k c']).run P w = .ok (.slice (some (pl b o)) (m + k) c) (w.setArr b (putA arr (o + m * i.size) news) et) := by
  have hf := run_firstCells_some (P := P) w i.size k (pl b' o') k c' news hl (by intro j u e; rw [add_pl]; exact hn j u e)
  have hst := run_storeCells (P := P) (t := et) (o + m * i.size) news 0 arr w hh (by simpa using hfit) h1
  simp only [Nat.add_zero] at hst
  have hu : (underlying t).run P w = .ok (.slice e) w := run_underlying ht
  simp [Builtin.append_, hu, sizeOf, typeInfo, hi, Builtin.lenOf, hroom, hf, add_pl, hst]

theorem grown_ge (w : World) (need old : Nat) (e : TypeId) (h : need < 2 ^ 63) : need ≤ grownCap w need old e := by
  simp only [grownCap, Question.cut]
  omega

theorem ok_row {B : Nat} {A : Nat → Prop} {t : Ty} {xs : List t.D} (b o c m : Nat) (arr : Array Value) (e : TypeId) (hm : m = xs.length) (hB : B ≤ b) (hc : xs.length ≤ c) (hh : w.heap[b]? = some (.cells arr e (0, 0))) (hs : o + c * t.size ≤ arr.size)
    (hr : ∀ i (h : i < xs.length), DenC A w t (xs[i]'h) (fun j => arr[o + (i * t.size + j)]?)) : (Blk.row t xs).Ok B A w ρ (.slice (some (pl b o)) m c) :=
  .inr ⟨b, o, c, arr, e, by rw [hm], hB, hc, hh, hs, hr⟩

/-- A row in new memory, a draw ahead. -/
theorem Holds.new_row_drew (h : Holds S w0 n fr fE fH ρ a w) {id : Nat} (hid : fr id) (t : Ty) (xs : List t.D) (vs : Array Value) (e : TypeId) (c : Nat) (hc : xs.length ≤ c) (hl : c * t.size ≤ vs.size)
    (hd : ∀ i (hi : i < xs.length), DenC (Al S fH ρ) w t (xs[i]'hi) (fun j => vs[i * t.size + j]?)) :
    After S w0 n (lessF fr id) fE (upd fH id (some (.row t xs))) a (.val (.one (.row id))) (.slice (some (pl w.heap.size 0)) xs.length c) (w.drew.alloc (.cells vs e)) := by
  have h' : Holds S w0 n fr fE fH ρ a w.drew := h.world below_drew
  have := h'.new_row (w := w.drew) hid t xs vs e c hc hl (fun i hi => DenC.step (w := w) (w' := w.drew) (A := Al S fH ρ) (A' := Al S fH ρ) (fun b o v ha hv => ⟨ha, hv⟩) t _ _ _ (fun _ _ _ e => e) (hd i hi))
  exact this

theorem aAppend_sound (h : Holds S w0 n fr fE fH ρ a w) {id : Nat} (hid : fr id) {t t' ty' : TypeId} {s s' : Sc} {v v' : Value} {e : Eff} (hs : s.Den (Al S fH ρ) w ρ v) (hs' : s'.Den (Al S fH ρ) w ρ v') (he : (aAppend P id t t' s s').Ev fE fH e) :
    Out P S w0 n fr fE fH a w id (nv (Builtin.append_ #[t, t'] ty' #[v, v'])) e := by
  unfold aAppend at he
  split at he
  · rename_i el u hu htt
    have : t = t' := by
      by_cases e : t = t'
      · exact e
      · rw [if_neg e] at htt; simp at htt
    subst this
    clear htt
    split at he
    · rename_i ty sz by' z hty hinf hz
      split at he
      · rename_i hc
        obtain ⟨hsz, hby, hby0, hzl⟩ := hc
        obtain ⟨xs, ds, he1, hx, p, c, rfl, hcx, hxr⟩ := rowsOf_sound h hs he
        obtain ⟨ys, es, he2, hy, p', c', rfl, hcy, hyr⟩ := rowsOf_sound h hs' he1
        clear he he1
        split at he2
        · exact he2.elim
        · rename_i hne
          obtain ⟨i, hi, hi2⟩ := Option.map_eq_some_iff.1 hinf
          simp only [Prod.mk.injEq] at hi2
          obtain ⟨his, hib⟩ := hi2
          have body : ∀ {e : Eff}, ((∀ t' zs, s ≠ .sl t' zs) ∧ (∀ nn t' zs, s ≠ .sln nn t' zs) ∧ ∀ i t1 l r, s ≠ .vw i t1 l r) → (RM.br (decide (xs.length + ys.length ≤ 1000000)) (.ret ⟨.val (.one (.row id)), ds.map (fun d => (d, none)) ++ [(id, some (.row ty (xs ++ ys)))]⟩) .fail).Ev fE fH e →
              Out P S w0 n fr fE fH a w id (nv (Builtin.append_ #[t, t] ty' #[.slice p xs.length c, .slice p' ys.length c'])) e := by
            intro e hns hb
            replace hx : (ds = [] ∧ ((s = .nil ∧ Value.slice p xs.length c = .slice none 0 0 ∧ xs = []) ∨ (∃ t' ys, s = .sl t' ys) ∨ ∃ nn t' ys, s = .sln nn t' ys)) ∨ (∃ i, s = .row i ∧ ds = [i] ∧ fH i = some (.row ty xs)) := by
              rcases hx with a | b | ⟨i1, t1, l1, r1, e1, _⟩
              · exact .inl a
              · exact .inr b
              · exact absurd e1 (hns.2.2 i1 t1 l1 r1)
            rcases hb with ⟨hle, hb⟩ | ⟨_, hb⟩
            rotate_left
            · exact hb.elim
            have hle := of_decide_eq_true hle
            obtain rfl := hb
            unfold Out
            simp only [applyW_append, applyW_drops, applyW]
            have hdid : ¬ id ∈ ds := by
              rcases hx with ⟨rfl, _⟩ | ⟨i', rfl, rfl, hfi⟩
              · simp
              · intro hm
                simp only [List.mem_singleton] at hm
                rw [← hm, (h.fresh id hid).2] at hfi
                simp at hfi
            rcases Nat.eq_zero_or_pos ys.length with hy0 | hypos
            · -- nothing is appended
              have hys : ys = [] := List.eq_nil_of_length_eq_zero hy0
              subst hys
              have hr := run_append_empty (P := P) (w := w) t ty' el i hu hi p p' xs.length c c' hcx
              simp only [List.append_nil, List.length_nil] at hr ⊢
              refine ⟨_, w, .inl (run_v hr), ?_⟩
              rcases hx with ⟨rfl, hx⟩ | ⟨i', rfl, rfl, hfi⟩
              · rcases hx with ⟨rfl, hv, rfl⟩ | ⟨t', zs, rfl⟩ | ⟨nn, t', zs, rfl⟩
                · simp only [List.length_nil] at hv ⊢
                  rw [hv]
                  refine ⟨upd ρ id (some (.slice none 0 0)), ((h.drops []).alloc_nil id hid ty).fewer fun _ q => lessF_of q, upd_same _ _ _⟩
                · exact absurd rfl (hns.1 t' zs)
                · exact absurd rfl (hns.2.1 nn t' zs)
              · have hp' : ρ i' = some (.slice p xs.length c) := hs
                rw [show dropsF [i'] fH = upd fH i' none by rw [dropsF_cons]; funext j; simp [dropsF]]
                obtain ⟨v2, e1, e2⟩ := h.blks i' _ hfi
                rw [hp'] at e1
                obtain rfl := Option.some.inj e1
                rcases e2 with ⟨e2, e3⟩ | ⟨b, o, c2, arr, et, e2, hB, hc2, hh, hs2, hr2⟩
                · subst e3
                  simp only [List.length_nil] at e2 ⊢
                  rw [e2]
                  exact ⟨upd ρ id (some (.slice none 0 0)), ((h.drop i').alloc_nil id hid ty).fewer fun _ q => lessF_of q, upd_same _ _ _⟩
                · simp only [Value.slice.injEq] at e2
                  obtain ⟨rfl, _, rfl⟩ := e2
                  exact ⟨upd ρ id _, (Holds.rename (w' := w) h hfi hp' hid rfl rfl (fun _ _ => rfl) rfl rfl rfl rfl fun hstep => ok_row b o c _ arr et rfl hB hc2 hh hs2 fun k hk => DenC.step hstep ty _ _ _ (fun _ _ _ e => e) (hr2 k hk)).fewer fun _ q => lessF_of q, upd_same _ _ _⟩
            · obtain ⟨b', o', news, rfl, hnl, hnv, hnd⟩ := hyr hypos
              obtain ⟨i0, zv, hi0, hzv, hzd, _⟩ := zeroOf_den (A := Al S fH ρ) (w := w) (ρ := ρ) hz
              rw [hi] at hi0
              obtain rfl := Option.some.inj hi0
              have hzs : zv.cells.size = ty.size := by
                have := hzd.length
                rw [hzl, hsz] at this
                simpa using this.symm
              have hnl' : news.length = ys.length * i.size := by rw [hnl, his, hsz]
              have hmulb : (xs.length + ys.length) * by' ≤ 1000000 * 256 := Nat.mul_le_mul hle hby
              -- the elements, in whatever array bears them
              have elems : ∀ (A' : Nat → Prop) (w' : World) (arr : Array Value) (o : Nat), Step (Al S fH ρ) w A' w' → (∀ q (hq : q < xs.length), DenC A' w' ty (xs[q]'hq) (fun j => arr[o + (q * ty.size + j)]?)) →
                  (∀ j u, news[j]? = some u → arr[o + (xs.length * ty.size + j)]? = some u) → ∀ q (hq : q < (xs ++ ys).length), DenC A' w' ty ((xs ++ ys)[q]'hq) (fun j => arr[o + (q * ty.size + j)]?) := by
                intro A' w' arr o hst ho hn q hq
                by_cases hqx : q < xs.length
                · rw [List.getElem_append_left hqx]
                  exact ho q hqx
                · rw [List.getElem_append_right (by omega)]
                  refine DenC.step hst ty _ _ _ (fun j u _ e => ?_) (hnd (q - xs.length) (by rw [List.length_append] at hq; omega))
                  have := hn _ u e
                  have e2 : o + (xs.length * ty.size + ((q - xs.length) * ty.size + j)) = o + (q * ty.size + j) := by
                    have := Nat.add_mul xs.length (q - xs.length) ty.size
                    rw [show xs.length + (q - xs.length) = q by omega] at this
                    omega
                  rw [← e2]
                  exact this
              rcases Nat.eq_zero_or_pos xs.length with hx0 | hxpos
              · -- the elder row is empty: nil, or with some room
                have hxs : xs = [] := List.eq_nil_of_length_eq_zero hx0
                subst hxs
                simp only [List.nil_append, List.length_nil, Nat.zero_add] at elems hle hmulb ⊢
                have grow : ∀ (fH2 : Nat → Option Blk), Holds S w0 n fr fE fH2 ρ a w → (∀ b, Al S fH ρ b → Al S fH2 ρ b) → (Builtin.append_ #[t, t] ty' #[.slice p 0 c, .slice (some (pl b' o')) ys.length c']).run P w =
                    .ok (.slice (some (pl w.heap.size 0)) ys.length (grownCap w ys.length c el)) (w.drew.alloc (.cells (news.toArray ++ Builtin.zeroCells zv.cells (grownCap w ys.length c el - ys.length)) el)) →
                    ∃ v w', ((nv (Builtin.append_ #[t, t] ty' #[.slice p 0 c, .slice (some (pl b' o')) ys.length c'])).run P w = .ok (.value v) w' ∨ ((nv (Builtin.append_ #[t, t] ty' #[.slice p 0 c, .slice (some (pl b' o')) ys.length c'])).run P w = .ok .skip w' ∧ v = undef)) ∧
                      After S w0 n (lessF fr id) fE (upd fH2 id (some (.row ty ys))) a (.val (.one (.row id))) v w' := by
                  intro fH2 h2 hA hr
                  refine ⟨_, _, .inl (run_v hr), h2.new_row_drew hid ty ys _ el (grownCap w ys.length c el) (grown_ge _ _ _ _ (by omega)) ?_ (fun q hq => ?_)⟩
                  · have hge := grown_ge w ys.length c el (by omega)
                    rw [Array.size_append, List.size_toArray, hnl]
                    simp only [Builtin.zeroCells, Array.size_map, Array.size_range, hzs]
                    rw [← Nat.add_mul]
                    exact Nat.mul_le_mul_right _ (by omega)
                  · refine DenC.step (fun b o v ha hv => ⟨hA b ha, hv⟩) ty _ _ _ (fun j u _ e => ?_) (hnd q hq)
                    have hlt := (List.getElem?_eq_some_iff.1 e).1
                    rw [Array.getElem?_append_left (by simpa using hlt)]
                    simpa using e
                rcases hx with ⟨rfl, hx⟩ | ⟨i', rfl, rfl, hfi⟩
                · rcases hx with ⟨rfl, hv, _⟩ | ⟨t', zs, rfl⟩ | ⟨nn, t', zs, rfl⟩
                  · simp only [List.length_nil, Value.slice.injEq] at hv
                    obtain ⟨rfl, _, rfl⟩ := hv
                    rw [show dropsF [] fH = fH by funext j; simp [dropsF]]
                    have := run_append_nil (P := P) w t ty' el i zv hu hi hzv (pl b' o') ys.length c' news hnl' (by intro j u e; rw [add_pl]; exact (hnv j u e).1) hypos (by omega) (by rw [hib]; omega)
                    exact grow fH h (fun _ q => q) this
                  · exact absurd rfl (hns.1 t' zs)
                  · exact absurd rfl (hns.2.1 nn t' zs)
                · have hp' : ρ i' = some (.slice p 0 c) := hs
                  rw [show dropsF [i'] fH = upd fH i' none by rw [dropsF_cons]; funext j; simp [dropsF]]
                  obtain ⟨v2, e1, e2⟩ := h.blks i' _ hfi
                  rw [hp'] at e1
                  obtain rfl := Option.some.inj e1
                  have hA1 : ∀ b, Al S fH ρ b → Al S (upd fH i' none) ρ b := fun b q => by
                    have := q.drops [i']
                    rwa [show dropsF [i'] fH = upd fH i' none by rw [dropsF_cons]; funext j; simp [dropsF]] at this
                  rcases e2 with ⟨e2, e3⟩ | ⟨b, o, c2, arr, et, e2, hB, hc2, hh, hs2, hr2⟩
                  · simp only [Value.slice.injEq] at e2
                    obtain ⟨rfl, _, rfl⟩ := e2
                    have := run_append_nil (P := P) w t ty' el i zv hu hi hzv (pl b' o') ys.length c' news hnl' (by intro j u e; rw [add_pl]; exact (hnv j u e).1) hypos (by omega) (by rw [hib]; omega)
                    exact grow _ (h.drop i') hA1 this
                  · simp only [List.length_nil, Value.slice.injEq, true_and] at e2
                    obtain ⟨rfl, rfl⟩ := e2
                    by_cases hroom : 0 + ys.length ≤ c
                    · have hfit : o + 0 * i.size + news.length ≤ arr.size := by
                        rw [hnl', his, hsz]
                        have : ys.length * ty.size ≤ c * ty.size := Nat.mul_le_mul_right _ (by omega)
                        omega
                      have hr := run_append_in (P := P) t ty' el i hu hi (b' := b') (o' := o') (c' := c') hh news hnl' (fun j u e => (hnv j u e).1) (fun u hu' => by obtain ⟨j, hj⟩ := List.getElem?_of_mem hu'; exact (hnv j u hj).2) hroom hfit
                      simp only [Nat.zero_add, Nat.zero_mul, Nat.add_zero] at hr hfit hroom
                      have hb := (Array.getElem?_eq_some_iff.1 hh).1
                      refine ⟨_, _, .inl (run_v hr), upd ρ id _, (Holds.rename h hfi hp' hid rfl rfl (fun k hk => setArr_other hk _ _) rfl rfl rfl (setArr_size _ _) fun hstep => ok_row b o c _ _ et rfl hB hroom (setArr_same hb _ _) (by rw [putA_size]; exact hs2) fun q hq => ?_).fewer fun _ q => lessF_of q, upd_same _ _ _⟩
                      refine DenC.step hstep ty _ _ _ (fun j u _ e => ?_) (hnd q hq)
                      have hlt := (List.getElem?_eq_some_iff.1 e).1
                      rw [putA_get _ _ _ hfit, if_pos (by omega), show o + (q * ty.size + j) - o = q * ty.size + j by omega]
                      exact e
                    · have hr := run_append_grow (P := P) w t ty' el i zv hu hi hzv (pl b o) 0 c [] (by simp) (by simp) (pl b' o') ys.length c' news hnl' (by intro j u e; rw [add_pl]; exact (hnv j u e).1) (by omega) (by simp; omega) (growslice_fits (by omega) (by rw [hib]; simp; omega))
                      simp only [Nat.zero_add, List.nil_append, Array.empty_append] at hr
                      have hr' : (#[] : Array Value) ++ news.toArray = news.toArray := by simp
                      exact grow _ (h.drop i') hA1 (by simpa using hr)
              · -- the elder row holds something: it is ours
                obtain ⟨b1, o1, olds, rfl, hol, hov, _⟩ := hxr hxpos
                rcases hx with ⟨rfl, hx⟩ | ⟨i', rfl, rfl, hfi⟩
                · rcases hx with ⟨rfl, hv, rfl⟩ | ⟨t', zs, rfl⟩ | ⟨nn, t', zs, rfl⟩
                  · simp at hxpos
                  · exact absurd rfl (hns.1 t' zs)
                  · exact absurd rfl (hns.2.1 nn t' zs)
                · have hp' : ρ i' = some (.slice (some (pl b1 o1)) xs.length c) := hs
                  rw [show dropsF [i'] fH = upd fH i' none by rw [dropsF_cons]; funext j; simp [dropsF]]
                  obtain ⟨v2, e1, e2⟩ := h.blks i' _ hfi
                  rw [hp'] at e1
                  obtain rfl := Option.some.inj e1
                  rcases e2 with ⟨e2, e3⟩ | ⟨b, o, c2, arr, et, e2, hB, hc2, hh, hs2, hr2⟩
                  · simp at e2
                  · simp only [Value.slice.injEq, Option.some.injEq, Addr.mk.injEq, and_true, true_and] at e2
                    obtain ⟨⟨rfl, rfl⟩, rfl⟩ := e2
                    have hb := (Array.getElem?_eq_some_iff.1 hh).1
                    by_cases hroom : xs.length + ys.length ≤ c
                    · have hfit : o1 + xs.length * i.size + news.length ≤ arr.size := by
                        rw [hnl', his, hsz]
                        have : (xs.length + ys.length) * ty.size ≤ c * ty.size := Nat.mul_le_mul_right _ (by omega)
                        rw [Nat.add_mul] at this
                        omega
                      have hr := run_append_in (P := P) t ty' el i hu hi (b' := b') (o' := o') (c' := c') hh news hnl' (fun j u e => (hnv j u e).1) (fun u hu' => by obtain ⟨j, hj⟩ := List.getElem?_of_mem hu'; exact (hnv j u hj).2) hroom hfit
                      rw [his, hsz] at hr hfit
                      rw [show xs.length + ys.length = (xs ++ ys).length by simp] at hr
                      refine ⟨_, _, .inl (run_v hr), upd ρ id _, (Holds.rename h hfi hp' hid rfl rfl (fun k hk => setArr_other hk _ _) rfl rfl rfl (setArr_size _ _) fun hstep => ok_row b1 o1 c _ _ et rfl hB (by simpa using hroom) (setArr_same hb _ _) (by rw [putA_size]; exact hs2) (elems _ _ _ o1 hstep (fun q hq => ?_) (fun j u e => ?_))).fewer fun _ q => lessF_of q, upd_same _ _ _⟩
                      · refine DenC.step hstep ty _ _ _ (fun j u hj e => ?_) (hr2 q hq)
                        have : (q + 1) * ty.size ≤ xs.length * ty.size := Nat.mul_le_mul_right _ (by omega)
                        rw [Nat.add_mul] at this
                        rw [putA_get _ _ _ hfit, if_neg (by omega)]
                        exact e
                      · have hlt := (List.getElem?_eq_some_iff.1 e).1
                        rw [putA_get _ _ _ hfit, if_pos (by omega), show o1 + (xs.length * ty.size + j) - (o1 + xs.length * ty.size) = j by omega]
                        exact e
                    · have hr := run_append_grow (P := P) w t ty' el i zv hu hi hzv (pl b1 o1) xs.length c olds (by rw [hol, his, hsz]) (by intro j u e; rw [add_pl]; exact (hov j u e).1) (pl b' o') ys.length c' news hnl' (by intro j u e; rw [add_pl]; exact (hnv j u e).1) (by omega) (by omega) (growslice_fits (by omega) (by rw [hib]; omega))
                      have hge := grown_ge w (xs.length + ys.length) c el (by omega)
                      have := (h.drop i').new_row_drew hid ty (xs ++ ys) (olds.toArray ++ news.toArray ++ Builtin.zeroCells zv.cells (grownCap w (xs.length + ys.length) c el - (xs.length + ys.length))) el (grownCap w (xs.length + ys.length) c el) (by simpa using hge) (by
                        rw [Array.size_append, Array.size_append, List.size_toArray, List.size_toArray, hnl, hol]
                        simp only [Builtin.zeroCells, Array.size_map, Array.size_range, hzs]
                        rw [← Nat.add_mul, ← Nat.add_mul]
                        exact Nat.mul_le_mul_right _ (by omega)) (fun q hq => by
                          have hA1 : Step (Al S fH ρ) w (Al S (upd fH i' none) ρ) w := fun b o v q hv => ⟨by
                            have := q.drops [i']
                            rwa [show dropsF [i'] fH = upd fH i' none by rw [dropsF_cons]; funext j; simp [dropsF]] at this, hv⟩
                          have key := elems _ _ (olds.toArray ++ news.toArray ++ Builtin.zeroCells zv.cells (grownCap w (xs.length + ys.length) c el - (xs.length + ys.length))) 0 hA1 (fun q hq => ?_) (fun j u e => ?_) q hq
                          · simpa using key
                          · refine DenC.step hA1 ty _ _ _ (fun j u hj e => ?_) (hr2 q hq)
                            have hq2 : (q + 1) * ty.size ≤ xs.length * ty.size := Nat.mul_le_mul_right _ (by omega)
                            rw [Nat.add_mul] at hq2
                            have hlt : q * ty.size + j < olds.length := by omega
                            have ho := (hov _ _ (List.getElem?_eq_getElem hlt)).1
                            rw [cell_of hh, e] at ho
                            rw [Nat.zero_add, Array.append_assoc, Array.getElem?_append_left (by simpa using hlt)]
                            have ho := Option.some.inj ho
                            simp [hlt, ho]
                          · have hlt := (List.getElem?_eq_some_iff.1 e).1
                            rw [Nat.zero_add, Array.append_assoc, Array.getElem?_append_right (by simp; omega)]
                            rw [Array.getElem?_append_left (by simp; omega)]
                            simp only [List.size_toArray, hol, Nat.add_sub_cancel_left]
                            simpa using e)
                      rw [show xs.length + ys.length = (xs ++ ys).length by simp] at hr this
                      exact ⟨_, _, .inl (run_v hr), this⟩
          split at he2
          · exact he2.elim
          · exact he2.elim
          · exact he2.elim
          · rename_i hns1 hns2 hns3
            exact body ⟨fun t' zs e => hns1 t' zs e, fun nn t' zs e => hns2 nn t' zs e, fun i t1 l r e => hns3 i t1 l r e⟩ he2
      · exact he.elim
    · exact he.elim
  · exact he.elim
end
end Go.Proofs.YtkdohmgacodhjaaPx
