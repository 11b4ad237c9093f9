/- Slice literals; the built-ins: each operation leaves what 'aop' says; no condition. -/
import Derived.Test.YtkdohmgacodhjaaPx12
set_option linter.unusedVariables false
set_option linter.unusedSimpArgs false
namespace Go.Proofs.YtkdohmgacodhjaaPx
open Go.RowKit

section
variable {S : Nat → Prop} {w0 : World} {n : Nat} {fr fr' : Nat → Prop} {fE : Nat → Option SV} {fH fH' : Nat → Option Blk} {ρ : Nat → Option Value} {a : Act} {w w' : World} {P : Program}

theorem fill_seq (sz : Nat) : ∀ (us : List Value) (k0 : Nat) (cells : Array Value), (∀ u ∈ us, u.cells.size = sz) → (k0 + us.length) * sz ≤ cells.size →
    ∃ arr, Instr.fill (fun i => some (i * sz, sz)) cells ((List.range' k0 us.length).zip us) = some arr ∧ arr.size = cells.size ∧ (∀ i, i < k0 * sz → arr[i]? = cells[i]?) ∧
      ∀ q u, us[q]? = some u → ∀ j, j < sz → arr[(k0 + q) * sz + j]? = u.cells[j]?
  | [], k0, cells, _, _ => ⟨cells, rfl, rfl, fun _ _ => rfl, fun q u e => by simp at e⟩
  | u :: us, k0, cells, hu, hl => by
    have h0 := hu u (by simp)
    simp only [List.length_cons] at hl
    have hl0 : k0 * sz + sz ≤ cells.size := by
      have : (k0 + 1) * sz ≤ (k0 + (us.length + 1)) * sz := Nat.mul_le_mul_right _ (by omega)
      rw [Nat.add_mul] at this
      omega
    obtain ⟨arr, h1, h2, h3, h4⟩ := fill_seq sz us (k0 + 1) (putA cells (k0 * sz) u.cells.toList) (fun v hv => hu v (by simp [hv])) (by rw [putA_size, show k0 + 1 + us.length = k0 + (us.length + 1) by omega]; exact hl)
    refine ⟨arr, ?_, by rw [h2, putA_size], fun i hi => ?_, fun q v e j hj => ?_⟩
    · rw [List.length_cons, List.range'_succ, List.zip_cons_cons, fill_cons (off := k0 * sz) (size := sz) rfl h0 hl0]
      exact h1
    · rw [h3 i (by rw [Nat.add_mul]; omega), putA_get _ _ _ (by simp [h0]; omega), if_neg (by omega)]
    · cases q with
      | zero =>
        simp only [List.getElem?_cons_zero, Option.some.injEq] at e
        subst e
        rw [Nat.add_zero, h3 _ (by rw [Nat.add_mul]; omega), putA_get _ _ _ (by simp [h0]; omega), if_pos (by simp [h0]; omega)]
        simp
      | succ q =>
        have := h4 q v (by simpa using e) j hj
        rwa [show k0 + 1 + q = k0 + (q + 1) by omega] at this

theorem DenVs.get : ∀ {A : Nat → Prop} {ss : List V1} {vs : List Value}, DenVs A w ρ ss vs → ∀ {i : Nat} {s : V1}, ss[i]? = some s → ∃ v, vs[i]? = some v ∧ s.Den A w ρ v
  | _, [], [], _, _, _, e => by simp at e
  | _, _ :: _, v :: _, h, 0, _, e => ⟨v, rfl, by simp at e; exact e ▸ h.1⟩
  | _, _ :: _, _ :: _, h, i + 1, _, e => DenVs.get h.2 (by simpa using e)
  | _, [], _ :: _, h, _, _, _ => h.elim
  | _, _ :: _, [], h, _, _, _ => h.elim
theorem DenVs.length : ∀ {A : Nat → Prop} {ss : List V1} {vs : List Value}, DenVs A w ρ ss vs → ss.length = vs.length
  | _, [], [], _ => rfl
  | _, _ :: _, _ :: _, h => congrArg (· + 1) (DenVs.length h.2)
  | _, [], _ :: _, h => h.elim
  | _, _ :: _, [], h => h.elim

theorem flat_get (sz : Nat) (hsz : 0 < sz) : ∀ (xs : List V1), (∀ x ∈ xs, x.cells.length = sz) → ∀ (i : Nat), (xs.flatMap V1.cells)[i]? = (xs[i / sz]?).bind fun x => x.cells[i % sz]?
  | [], _, i => by simp
  | x :: xs, h, i => by
    have h0 := h x (by simp)
    rw [List.flatMap_cons, List.getElem?_append]
    split
    · rename_i hi
      rw [h0] at hi
      rw [Nat.div_eq_of_lt hi, Nat.mod_eq_of_lt hi]
      rfl
    · rename_i hi
      rw [h0] at hi ⊢
      rw [flat_get sz hsz xs (fun y hy => h y (by simp [hy])) (i - sz)]
      have e1 : i / sz = (i - sz) / sz + 1 := by
        rw [Nat.div_eq_sub_div hsz (by omega)]
      have e2 : i % sz = (i - sz) % sz := Nat.mod_eq_sub_mod (by omega)
      rw [e1, e2]
      simp

theorem flat_len (sz : Nat) : ∀ (xs : List V1), (∀ x ∈ xs, x.cells.length = sz) → (xs.flatMap V1.cells).length = xs.length * sz
  | [], _ => by simp
  | x :: xs, h => by
    rw [List.flatMap_cons, List.length_append, h x (by simp), flat_len sz xs (fun y hy => h y (by simp [hy])), List.length_cons, Nat.succ_mul]
    omega

theorem ofRows_get {ty : Ty} : ∀ {vs : List V1} {xs : List ty.D}, ofRows ty vs = some xs → xs.length = vs.length ∧ ∀ (i : Nat) (x : ty.D), xs[i]? = some x → ∃ v : V1, vs[i]? = some v ∧ ty.ofCells v.cells = some (x, [])
  | [], xs, h => by simp [ofRows] at h; subst h; exact ⟨rfl, fun i x e => by simp at e⟩
  | v :: vs, xs, h => by
    simp only [ofRows] at h
    split at h
    · rename_i y hy
      split at h
      · rename_i ys hys
        simp only [Option.some.injEq] at h
        subst h
        obtain ⟨h1, h2⟩ := ofRows_get hys
        refine ⟨by simp [h1], fun i x e => ?_⟩
        cases i with
        | zero => simp at e; subst e; exact ⟨v, rfl, hy⟩
        | succ i => exact h2 i x (by simpa using e)
      · simp at h
    · simp at h

theorem aEmptySlice_sound (h : Holds S w0 n fr fE fH ρ a w) {id : Nat} (hid : fr id) {t : TypeId} {parts : Array (Nat × Operand)} {e : Eff}
    (he : (aEmptySlice P id t (parts.toList.map (·.1))).Ev fE fH e) : Out P S w0 n fr fE fH a w id (nv (Instr.buildSlice t 0 (parts.map fun (i, x) => (i, a.eval x)))) e := by
  unfold aEmptySlice at he
  split at he
  · rename_i el hu
    split at he
    · rename_i sz ty hs hty hp
      obtain rfl := he
      have hp : parts = #[] := by
        have : parts.toList = [] := List.map_eq_nil_iff.1 hp
        exact Array.toList_eq_nil_iff.1 this
      subst hp
      have hr : (Instr.buildSlice t 0 ((#[] : Array (Nat × Operand)).map fun (i, x) => (i, a.eval x))).run P w = .ok (.slice (some (pl w.heap.size 0)) 0 0) (w.alloc (.cells #[] el)) := by
        simp only [Instr.buildSlice, Sem.run_bind, run_underlying hu, Result.andThen_ok, run_sizeOf hs, Sem.run_pure, Nat.zero_mul]
        rw [if_neg (by omega), if_pos trivial]
        simp only [Sem.run_bind, Sem.run_pure, Result.andThen_ok]
        have hf : ∀ (z : Array Value) (places : Nat → Option (Nat × Nat)), Instr.fill places ((Array.range 0).map (z[· % z.size]!)) ((#[] : Array (Nat × Operand)).map fun (i, x) => (i, a.eval x)).toList = some #[] := by
          intro z places
          simp [Instr.fill]
        rw [hf]
        simp only [newRow, Sem.run_bind, run_newObj, Result.andThen_ok, Sem.run_pure]
        rfl
      exact ⟨_, _, .inl (run_v hr), h.new_row hid ty [] #[] el 0 (by simp) (by simp) (fun i hi => by simp at hi)⟩
    · exact he.elim
  · exact he.elim

theorem aBuildSlice_sound (h : Holds S w0 n fr fE fH ρ a w) {id : Nat} (hid : fr id) {t : TypeId} {len : Nat} {parts : Array (Nat × Operand)} {xs : List V1} {e : Eff} (hx : DenVs (Al S fH ρ) w ρ xs ((parts.toList.map (·.2)).map a.eval))
    (he : (aBuildSlice P id t len (parts.toList.map (·.1)) xs).Ev fE fH e) : Out P S w0 n fr fE fH a w id (nv (Instr.buildSlice t len (parts.map fun (i, x) => (i, a.eval x)))) e := by
  unfold aBuildSlice at he
  split at he
  · rename_i el hu
    split at he
    · rename_i sz hs
      split at he
      · rename_i hc
        obtain ⟨hall, his, hsz0, hbig, hlen0, hxl, hzs⟩ := hc
        obtain ⟨z, hz⟩ := Option.isSome_iff_exists.1 hzs
        obtain ⟨i, v, hi, hzv, hzd, _⟩ := zeroOf_den (A := Al S fH ρ) (w := w) (ρ := ρ) hz
        have hvl := DenVs.length hx
        have hcell : ∀ (q : Nat) (x : V1) (u : Value), xs[q]? = some x → ((parts.toList.map (·.2)).map a.eval)[q]? = some u → x.cells.length = sz ∧ DenL (Al S fH ρ) w ρ x.cells u.cells.toList := by
          intro q x u ex eu
          obtain ⟨u', eu', hd⟩ := DenVs.get hx ex
          rw [eu] at eu'
          obtain rfl := Option.some.inj eu'
          have := List.all_eq_true.1 hall x (List.mem_of_getElem? ex)
          simp only [Bool.and_eq_true, beq_iff_eq] at this
          exact ⟨this.1, (hd.cells h.shape this.2).1⟩
        have hus : ∀ u ∈ ((parts.toList.map (·.2)).map a.eval), u.cells.size = sz := by
          intro u hu'
          obtain ⟨q, hq⟩ := List.getElem?_of_mem hu'
          have hlt := (List.getElem?_eq_some_iff.1 hq).1
          rw [← hvl] at hlt
          obtain ⟨h1, h2⟩ := hcell q _ u (List.getElem?_eq_getElem hlt) hq
          have := h2.length
          rw [h1] at this
          simpa using this.symm
        have hulen : ((parts.toList.map (·.2)).map a.eval).length = len := by rw [← hvl, hxl]
        obtain ⟨arr, hf, ha1, _, ha2⟩ := fill_seq sz ((parts.toList.map (·.2)).map a.eval) 0 ((Array.range (len * sz)).map (v.cells[· % v.cells.size]!)) hus (by rw [hulen]; simp)
        have hasz : arr.size = len * sz := by rw [ha1]; simp
        have hparts : (parts.map fun (i, x) => (i, a.eval x)).toList = (List.range' 0 ((parts.toList.map (·.2)).map a.eval).length).zip ((parts.toList.map (·.2)).map a.eval) := by
          rw [Array.toList_map, hulen, ← List.range_eq_range', ← his]
          exact zip_map_eval parts.toList a.eval
        have hr : (Instr.buildSlice t len (parts.map fun (i, x) => (i, a.eval x))).run P w = .ok (.slice (some (pl w.heap.size 0)) len len) (w.alloc (.cells arr el)) := by
          have hne : ¬ len * sz = 0 := by
            intro hcon
            rcases Nat.mul_eq_zero.1 hcon with h | h
            · exact hlen0 h
            · exact hsz0 h
          simp only [Instr.buildSlice, Sem.run_bind, run_underlying hu, Result.andThen_ok, run_sizeOf hs, Sem.run_pure]
          rw [if_neg (by omega), if_neg hne]
          simp only [Sem.run_bind, Sem.run_pure, Result.andThen_ok, run_zeroValue hi hzv]
          rw [hparts, hf]
          simp only [newRow, Sem.run_bind, run_newObj, Result.andThen_ok, Sem.run_pure]
          rfl
        have hget : ∀ q j, q < len → j < sz → arr[q * sz + j]? = ((((parts.toList.map (·.2)).map a.eval)[q]?).bind fun u => u.cells[j]?) := by
          intro q j hq hj
          have hlt : q < ((parts.toList.map (·.2)).map a.eval).length := by omega
          have := ha2 q _ (List.getElem?_eq_getElem hlt) j hj
          rw [Nat.zero_add] at this
          rw [this, List.getElem?_eq_getElem hlt]
          rfl
        split at he
        · rename_i ty ys hty
          obtain rfl := he
          obtain ⟨ty', hty1, hty2⟩ := Option.bind_eq_some_iff.1 hty
          obtain ⟨zs, hzs1, hzs2⟩ := Option.map_eq_some_iff.1 hty2
          simp only [Sigma.mk.injEq] at hzs2
          obtain ⟨rfl, hzs2⟩ := hzs2
          obtain rfl := eq_of_heq hzs2
          split at hzs1
          · rename_i htsz
            obtain ⟨hyl, hyg⟩ := ofRows_get hzs1
            have hyl' : zs.length = len := by rw [hyl, hxl]
            have := h.new_row hid ty' zs arr el len (by omega) (by rw [hasz, htsz]; exact Nat.le_refl _) (fun q hq => by
              obtain ⟨x, hx1, hx2⟩ := hyg q _ (List.getElem?_eq_getElem hq)
              have hlt : q < ((parts.toList.map (·.2)).map a.eval).length := by omega
              obtain ⟨h1, h2⟩ := hcell q x _ hx1 (List.getElem?_eq_getElem hlt)
              obtain ⟨v1, v2, hv12, d1, d2⟩ := ofCells_den _ _ _ _ _ hx2 h2
              have : v2 = [] := by cases v2 with | nil => rfl | cons => exact d2.elim
              subst this
              rw [List.append_nil] at hv12
              refine DenC.step Step.refl ty' _ _ _ (fun j u hj e => ?_) (DenC.of_list ty' _ v1 d1)
              rw [htsz] at hj ⊢
              rw [hget q j (by omega) hj, List.getElem?_eq_getElem hlt]
              rw [← hv12] at e
              simpa using e)
            rw [hyl'] at this
            exact ⟨_, _, .inl (run_v hr), this⟩
          · simp at hzs1
        · obtain rfl := he
          have hflat : DenL (Al S fH ρ) w ρ (xs.flatMap V1.cells) arr.toList := by
            have hxc : ∀ x ∈ xs, x.cells.length = sz := fun x hx' => by
              have := List.all_eq_true.1 hall x hx'
              simp only [Bool.and_eq_true, beq_iff_eq] at this
              exact this.1
            have hpos : 0 < sz := by omega
            have hfl : (xs.flatMap V1.cells).length = len * sz := by
              rw [← hxl]
              exact flat_len sz xs hxc
            refine DenL.of_get (by rw [hfl]; simp [hasz]) fun q s u es eu => ?_
            have hql : q < len * sz := by have := (List.getElem?_eq_some_iff.1 es).1; omega
            rw [flat_get sz hpos xs hxc] at es
            obtain ⟨x, hx1, hx2⟩ := Option.bind_eq_some_iff.1 es
            have hqd : q / sz < len := (Nat.div_lt_iff_lt_mul hpos).2 hql
            have hlt : q / sz < ((parts.toList.map (·.2)).map a.eval).length := by omega
            obtain ⟨h1, h2⟩ := hcell _ x _ hx1 (List.getElem?_eq_getElem hlt)
            rw [Array.getElem?_toList, show q = q / sz * sz + q % sz by rw [Nat.mul_comm]; exact (Nat.div_add_mod q sz).symm, hget _ _ hqd (Nat.mod_lt _ hpos), List.getElem?_eq_getElem hlt] at eu
            obtain ⟨u', eu', hd⟩ := h2.get hx2
            simp only [Option.bind_some] at eu
            rw [Array.getElem?_toList, eu] at eu'
            exact (Option.some.inj eu') ▸ hd
          obtain ⟨ρ', hH, b, hb1, hb2⟩ := h.new_box hid (xs.flatMap V1.cells) arr el hflat
          simp only [Value.pointer.injEq, Option.some.injEq, Addr.mk.injEq, and_true] at hb2
          subst hb2
          exact ⟨_, _, .inl (run_v hr), ρ', hH, _, hb1, rfl⟩
      · exact he.elim
    · exact he.elim
  · exact he.elim

/-! ### The built-ins -/
theorem exec_builtin {o : Oper} {c : Call} {b : Builtin} (ho : o.op = .call c) (hc : c.callee = .builtin b) : ∃ cs, (execOp a.eval o).run P w = (builtin b c.argTypes o.type cs (c.args.map a.eval)).run P w := by
  refine ⟨c.args.map fun | .const _ => true | _ => false, ?_⟩
  simp only [execOp, ho, resolve, hc, Sem.run_bind, Sem.run_pure, Result.andThen_ok, invoke]
  rfl

theorem minL_sound {k : IntKind} : ∀ {vs : List V1} {us : List Value} {x m : Int}, minL k x vs = some m → DenVs (Al S fH ρ) w ρ vs us → (us.foldlM Builtin.min2 (.int k x)).run P w = .ok (.int k m) w
  | [], [], x, m, h, _ => by simp only [minL, Option.some.injEq] at h; subst h; rfl
  | v :: vs, u :: us, x, m, h, hd => by
    unfold minL at h
    split at h
    · rename_i e; simp at e
    · rename_i k' y r e
      simp only [List.cons.injEq] at e
      obtain ⟨rfl, rfl⟩ := e
      have hu : u = .int k' y := hd.1
      subst hu
      rw [List.foldlM_cons]
      simp only [Builtin.min2, Sem.run_bind, Sem.run_pure, Result.andThen_ok]
      exact minL_sound h hd.2
    · simp at h
  | [], _ :: _, _, _, _, hd => hd.elim
  | _ :: _, [], _, _, _, hd => hd.elim

theorem maxL_sound {k : IntKind} : ∀ {vs : List V1} {us : List Value} {x m : Int}, maxL k x vs = some m → DenVs (Al S fH ρ) w ρ vs us → (us.foldlM Builtin.max2 (.int k x)).run P w = .ok (.int k m) w
  | [], [], x, m, h, _ => by simp only [maxL, Option.some.injEq] at h; subst h; rfl
  | v :: vs, u :: us, x, m, h, hd => by
    unfold maxL at h
    split at h
    · rename_i e; simp at e
    · rename_i k' y r e
      simp only [List.cons.injEq] at e
      obtain ⟨rfl, rfl⟩ := e
      have hu : u = .int k' y := hd.1
      subst hu
      rw [List.foldlM_cons]
      simp only [Builtin.max2, Sem.run_bind, Sem.run_pure, Result.andThen_ok]
      exact maxL_sound h hd.2
    · simp at h
  | [], _ :: _, _, _, _, hd => hd.elim
  | _ :: _, [], _, _, _, hd => hd.elim

theorem arr1 {α : Type} {xs : Array α} {x : α} (h : xs.toList = [x]) : xs = #[x] := by cases xs; simp at h; simp [h]
theorem arr2 {α : Type} {xs : Array α} {x y : α} (h : xs.toList = [x, y]) : xs = #[x, y] := by cases xs; simp at h; simp [h]

theorem over3_length {t : Ty} (xs ys : List t.D) (l q : Nat) (h1 : l + q ≤ xs.length) (h2 : q ≤ ys.length) : (over3 xs ys l q).length = xs.length := by
  simp only [over3, List.length_append, List.length_take, List.length_drop]
  omega

theorem over3_get {t : Ty} (xs ys : List t.D) (l q : Nat) (h1 : l + q ≤ xs.length) (h2 : q ≤ ys.length) (k : Nat) (hk : k < (over3 xs ys l q).length) :
    (over3 xs ys l q)[k]'hk = if h : l ≤ k ∧ k < l + q then ys[k - l]'(by omega) else xs[k]'(by rw [over3_length xs ys l q h1 h2] at hk; exact hk) := by
  have hk2 := hk
  rw [over3_length xs ys l q h1 h2] at hk2
  have e1 : (xs.take l).length = l := by rw [List.length_take]; omega
  have e2 : (ys.take q).length = q := by rw [List.length_take]; omega
  unfold over3
  simp only [List.append_assoc]
  rw [List.getElem_append]
  split
  · rename_i h
    rw [e1] at h
    rw [dif_neg (by omega)]
    simp
  · rename_i h
    rw [e1] at h
    rw [List.getElem_append]
    split
    · rename_i h'
      rw [e1, e2] at h'
      rw [dif_pos (by omega)]
      simp [e1]
    · rename_i h'
      rw [e1, e2] at h'
      rw [dif_neg (by omega)]
      simp only [List.getElem_drop]
      congr 1
      omega

theorem over3_zero {t : Ty} (xs ys : List t.D) (l : Nat) : over3 xs ys l 0 = xs := by simp [over3]

theorem copy_sound (h : Holds S w0 n fr fE fH ρ a w) (id : Nat) {i : Nat} {ty : Ty} {xs ys : List ty.D} {l m sz : Nat} {t t' tt el : TypeId} (hi : fH i = some (.row ty xs)) (hlm : l ≤ m) (hm : m ≤ xs.length)
    {p : Option Addr} {c : Nat} (hp : ρ i = some (.slice p xs.length c)) (hc : xs.length ≤ c) {p' : Option Addr} {c' : Nat}
    (hsrc : 0 < ys.length → ∃ (b o : Nat) (vs : List Value), p' = some (pl b o) ∧ vs.length = ys.length * ty.size ∧ (∀ (j : Nat) (u : Value), vs[j]? = some u → w.cell? (pl b (o + j)) = some u ∧ u.oneCell' = true) ∧ ∀ q (hq : q < ys.length), DenC (Al S fH ρ) w ty (ys[q]'hq) (fun j => vs[q * ty.size + j]?))
    (hu : P.underlying t = some (.slice el)) (hs : szOf P el = some sz) (hts : sz = ty.size) :
    Out P S w0 n fr fE fH a w id (nv (Builtin.copy_ #[t, t'] tt #[.slice (if c = l then p else p.map (·.add (l * ty.size))) (m - l) (c - l), .slice p' ys.length c'])) ⟨.val (.one (.int .i64 (min ys.length (m - l) : Nat))), [(i, some (.row ty (over3 xs ys l (min ys.length (m - l)))))]⟩ := by
  subst hts
  obtain ⟨inf, hinf, hsz⟩ := Option.map_eq_some_iff.1 hs
  obtain ⟨q, hq⟩ : ∃ q, q = min ys.length (m - l) := ⟨_, rfl⟩
  have hq' : Nat.min ys.length (m - l) = q := hq.symm
  rw [← hq]
  rcases Nat.eq_zero_or_pos q with h0 | hpos
  · -- nothing
    rw [h0, over3_zero]
    have hrun : (Builtin.copy_ #[t, t'] tt #[.slice (if c = l then p else p.map (·.add (l * ty.size))) (m - l) (c - l), .slice p' ys.length c']).run P w = .ok (goInt 0) w := by
      rw [h0] at hq'
      cases p' with
      | none =>
        cases hbase : (if c = l then p else p.map (·.add (l * ty.size))) <;> simp [Builtin.copy_, run_underlying hu, Builtin.lenOf, sizeOf, typeInfo, hinf, hq', Builtin.firstCells, storeCells]
      | some ad =>
        cases hbase : (if c = l then p else p.map (·.add (l * ty.size))) <;> simp [Builtin.copy_, run_underlying hu, Builtin.lenOf, sizeOf, typeInfo, hinf, hq', Builtin.firstCells, loadCells, loadCellsFrom, storeCells]
    have hfH : applyW [(i, some (Blk.row ty xs))] fH = fH := by
      funext j
      simp only [applyW, upd]
      split
      · rename_i e; rw [e, hi]
      · rfl
    refine ⟨goInt 0, w, .inl (run_v hrun), ρ, ?_, rfl⟩
    rw [hfH]
    exact h.fewer fun _ q => q.1
  · have hle1 : q ≤ ys.length := by omega
    have hle2 : l + q ≤ xs.length := by omega
    obtain ⟨b', o', vs, rfl, hvl, hvc, hvd⟩ := hsrc (by omega)
    obtain ⟨v', e1, e2⟩ := h.blks i _ hi
    rw [hp] at e1
    obtain rfl := Option.some.inj e1
    rcases e2 with ⟨_, e2⟩ | ⟨b, o, c2, arr, et, e2, hB, hc2, hh, hfit, hr⟩
    · rw [e2] at hle2; simp at hle2; omega
    · simp only [Value.slice.injEq, true_and] at e2
      obtain ⟨rfl, rfl⟩ := e2
      have hcl : ¬ c = l := by omega
      have hnews : (vs.take (q * ty.size)).length = q * ty.size := by
        rw [List.length_take, hvl]
        exact Nat.min_eq_left (Nat.mul_le_mul_right _ hle1)
      have htake : ∀ (j : Nat) (u : Value), (vs.take (q * ty.size))[j]? = some u → vs[j]? = some u := by
        intro j u e
        rw [List.getElem?_take] at e
        split at e
        · exact e
        · simp at e
      have hfc := run_firstCells_some (P := P) w ty.size q (pl b' o') ys.length c' (vs.take (q * ty.size)) hnews (by intro j u e; rw [add_pl]; exact (hvc j u (htake j u e)).1)
      have hroom : o + l * ty.size + (vs.take (q * ty.size)).length ≤ arr.size := by
        rw [hnews]
        have : (l + q) * ty.size ≤ c * ty.size := Nat.mul_le_mul_right _ (by omega)
        rw [Nat.add_mul] at this
        omega
      have hst := run_storeCells (P := P) (t := et) (o + l * ty.size) (vs.take (q * ty.size)) 0 arr w hh (by simpa using hroom) (fun u hu' => by obtain ⟨j, hj⟩ := List.getElem?_of_mem hu'; exact (hvc j u (htake j u hj)).2)
      simp only [Nat.add_zero] at hst
      have hrun : (Builtin.copy_ #[t, t'] tt #[.slice (if c = l then some (pl b o) else (some (pl b o)).map (·.add (l * ty.size))) (m - l) (c - l), .slice (some (pl b' o')) ys.length c']).run P w = .ok (goInt q) (w.setArr b (putA arr (o + l * ty.size) (vs.take (q * ty.size))) et) := by
        rw [if_neg hcl]
        simp [Builtin.copy_, run_underlying hu, Builtin.lenOf, sizeOf, typeInfo, hinf, hsz, hq', hfc, add_pl, hst]
      have hb := (Array.getElem?_eq_some_iff.1 hh).1
      have hstep := Step.write (blk' := .row ty (over3 xs ys l q)) (w' := w.setArr b (putA arr (o + l * ty.size) (vs.take (q * ty.size))) et) h hi hp rfl (fun k hk => setArr_other hk _ _)
      refine ⟨goInt q, _, .inl (run_v hrun), ρ, ?_, rfl⟩
      have hW := Holds.write (blk' := .row ty (over3 xs ys l q)) (w' := w.setArr b (putA arr (o + l * ty.size) (vs.take (q * ty.size))) et) h hi hp rfl (fun k hk => setArr_other hk _ _) rfl rfl rfl (setArr_size _ _)
        (.inr ⟨b, o, c, _, et, by rw [over3_length xs ys l q hle2 hle1], hB, by rw [over3_length xs ys l q hle2 hle1]; exact hc2, setArr_same hb _ _, by rw [putA_size]; exact hfit, fun k hk => by
          rw [over3_get xs ys l q hle2 hle1 k hk]
          have hkx : k < xs.length := by rw [over3_length xs ys l q hle2 hle1] at hk; exact hk
          split
          · rename_i hin
            refine DenC.step hstep ty _ _ _ (fun j u hj e => ?_) (hvd (k - l) (by omega))
            have h2 : (k - l + 1) * ty.size ≤ q * ty.size := Nat.mul_le_mul_right _ (by omega)
            have h3 : l * ty.size + (k - l) * ty.size = k * ty.size := by rw [← Nat.add_mul]; congr 1; omega
            rw [Nat.add_mul] at h2
            rw [putA_get _ _ _ hroom, if_pos (by rw [hnews]; omega), show o + (k * ty.size + j) - (o + l * ty.size) = (k - l) * ty.size + j by omega, List.getElem?_take, if_pos (by omega)]
            exact e
          · rename_i hin
            refine DenC.step hstep ty _ _ _ (fun j u hj e => ?_) (hr k hkx)
            rw [putA_get _ _ _ hroom, if_neg]
            · exact e
            · rw [hnews]
              rcases Nat.lt_or_ge k l with hlt | hge
              · have : (k + 1) * ty.size ≤ l * ty.size := Nat.mul_le_mul_right _ (by omega)
                rw [Nat.add_mul] at this
                omega
              · have : (l + q) * ty.size ≤ k * ty.size := Nat.mul_le_mul_right _ (by omega)
                rw [Nat.add_mul] at this
                omega⟩)
      exact hW.fewer fun _ q => q.1

theorem aCopyTo_sound (h : Holds S w0 n fr fE fH ρ a w) (id : Nat) {i : Nat} {ty : Ty} {b : Sc} {sv : Value} {sz : Nat} {t t' tt el : TypeId} (hb : b.Den (Al S fH ρ) w ρ sv) (hu : P.underlying t = some (.slice el)) (hs : szOf P el = some sz) (hts : sz = ty.size) {e : Eff}
    (lh : Option Nat × Option Nat) {dv : Value} (hdv : (∃ l m p nn c, lh = (some l, some m) ∧ ρ i = some (.slice p nn c) ∧ l ≤ m ∧ m ≤ nn ∧ dv = .slice (if c = l then p else p.map (·.add (l * ty.size))) (m - l) (c - l)) ∨ (lh = (none, none) ∧ ρ i = some dv))
    (he : (aCopyTo P i ty lh.1 lh.2 b).Ev fE fH e) : Out P S w0 n fr fE fH a w id (nv (Builtin.copy_ #[t, t'] tt #[dv, sv])) e := by
  obtain ⟨blk, hi, he⟩ := he
  cases blk with
  | box _ => exact he.elim
  | row t'' xs =>
    simp only [] at he
    split at he
    · rename_i et
      subst et
      obtain ⟨ys, ds, he, _, p', c', rfl, hcy, hyr⟩ := rowsOf_sound h hb he
      have shp : ∃ p c, ρ i = some (.slice p xs.length c) ∧ xs.length ≤ c := by
        obtain ⟨v', e1, e2⟩ := h.blks i _ hi
        rcases e2 with ⟨rfl, rfl⟩ | ⟨b, o, c, arr, et, rfl, hB, hc, _⟩
        · exact ⟨none, 0, e1, Nat.le_refl _⟩
        · exact ⟨_, c, e1, hc⟩
      obtain ⟨p, c, hp, hc⟩ := shp
      rcases hdv with ⟨l, m, p2, n2, c2, rfl, h2, h3, h4, rfl⟩ | ⟨rfl, h2⟩
      · simp only [] at he
        rw [hp] at h2
        simp only [Option.some.injEq, Value.slice.injEq] at h2
        obtain ⟨rfl, rfl, rfl⟩ := h2
        obtain rfl := he
        exact copy_sound h id hi h3 h4 hp hc hyr hu hs hts
      · simp only [] at he
        obtain rfl := he
        rw [hp] at h2
        obtain rfl := Option.some.inj h2
        have := copy_sound (c' := c') (t' := t') (tt := tt) h id hi (Nat.zero_le _) (Nat.le_refl _) hp hc hyr hu hs hts
        have e0 : (if c = 0 then p else p.map (·.add (0 * t''.size))) = p := by
          split
          · rfl
          · obtain ⟨v', e1, e2⟩ := h.blks i _ hi
            rw [hp] at e1
            obtain rfl := Option.some.inj e1
            rcases e2 with ⟨e2, _⟩ | ⟨b, o, c3, arr, et, e2, _⟩
            · simp only [Value.slice.injEq] at e2; rw [e2.1]; rfl
            · simp only [Value.slice.injEq] at e2; rw [e2.1]; simp [add_pl]
        rw [e0, Nat.sub_zero, Nat.sub_zero] at this
        exact this
    · exact he.elim

theorem aCopy_sound (h : Holds S w0 n fr fE fH ρ a w) (id : Nat) {t t' tt : TypeId} {s b : Sc} {dv sv : Value} {e : Eff} (hs : s.Den (Al S fH ρ) w ρ dv) (hb : b.Den (Al S fH ρ) w ρ sv) (he : (aCopy P t s b).Ev fE fH e) : Out P S w0 n fr fE fH a w id (nv (Builtin.copy_ #[t, t'] tt #[dv, sv])) e := by
  unfold aCopy at he
  split at he
  · rename_i el hu
    split at he
    · rename_i ty sz hty hsz
      split at he
      · rename_i hts
        split at he
        · rename_i i
          exact aCopyTo_sound h id hb hu hsz hts (none, none) (.inr ⟨rfl, hs⟩) he
        · rename_i i t2 l m
          split at he
          · rename_i et
            subst et
            obtain ⟨p, n', c, h1, h2, h3, h4, rfl⟩ := hs
            exact aCopyTo_sound h id hb hu hsz hts (some l, some m) (.inl ⟨l, m, p, n', c, rfl, h1, h2, h3, rfl⟩) he
          · exact he.elim
        · exact he.elim
      · exact he.elim
    · exact he.elim
  · exact he.elim

theorem aBuiltin_sound (h : Holds S w0 n fr fE fH ρ a w) {id : Nat} (hid : fr id) {b : Builtin} {c : Call} {ty : TypeId} {cs : Array Bool} {hdn : Bool} {e : Eff} (he : (aBuiltin P hdn id b c.args.toList c.argTypes.toList).Ev fE fH e) :
    Out P S w0 n fr fE fH a w id (builtin b c.argTypes ty cs (c.args.map a.eval)) e := by
  unfold aBuiltin at he
  split at he
  · rename_i x t ha ht
    rw [arr1 ha, arr1 ht]
    obtain ⟨s, hs, he⟩ := evS_sound h he
    split at he
    · rename_i el hu
      obtain ⟨p, m, c', hv, he⟩ := lenOf_sound h hs he
      have he : (one (.int .i64 m)).Ev fE fH e := by
        split at he
        · rw [lenI_eq] at he; exact he
        · exact he
      refine out_one (sc := .int .i64 m) h id (v := .int .i64 m) ?_ he rfl
      simp only [builtin, Builtin.len_, List.map_toArray, List.map_cons, List.map_nil]
      simp [hv, run_underlying hu, goInt]
    · exact he.elim
  · rename_i x l hl
    obtain ⟨k, m, hm, he⟩ := evI_sound h he
    obtain ⟨vs, hvs, he⟩ := evL_sound h he
    split at he
    · rename_i r hr
      refine out_one (sc := .int k r) h id (v := .int k r) ?_ he rfl
      have hargs : (c.args.map a.eval).toList = .int k m :: l.map a.eval := by rw [Array.toList_map, hl, List.map_cons, hm]
      refine run_v (s := Builtin.min_ c.argTypes ty (c.args.map a.eval)) ?_
      simp only [Builtin.min_, hargs]
      exact minL_sound hr hvs
    · exact he.elim
  · rename_i x l hl
    obtain ⟨k, m, hm, he⟩ := evI_sound h he
    obtain ⟨vs, hvs, he⟩ := evL_sound h he
    split at he
    · rename_i r hr
      refine out_one (sc := .int k r) h id (v := .int k r) ?_ he rfl
      have hargs : (c.args.map a.eval).toList = .int k m :: l.map a.eval := by rw [Array.toList_map, hl, List.map_cons, hm]
      refine run_v (s := Builtin.max_ c.argTypes ty (c.args.map a.eval)) ?_
      simp only [Builtin.max_, hargs]
      exact maxL_sound hr hvs
    · exact he.elim
  · rename_i x y t t' ha ht
    rw [arr2 ha, arr2 ht]
    obtain ⟨s, hs, he⟩ := evS_sound h he
    obtain ⟨s', hs', he⟩ := evS_sound h he
    have := aAppend_sound (ty' := ty) h hid hs hs' he
    rw [show Array.map a.eval #[x, y] = #[a.eval x, a.eval y] by simp]
    exact this
  · rename_i x y t t' ha ht
    rw [arr2 ha, arr2 ht]
    obtain ⟨s, hs, he⟩ := evS_sound h he
    obtain ⟨s', hs', he⟩ := evS_sound h he
    have := aCopy_sound (t' := t') (tt := ty) h id hs hs' he
    rw [show Array.map a.eval #[x, y] = #[a.eval x, a.eval y] by simp]
    exact this
  · exact he.elim
end
end Go.Proofs.YtkdohmgacodhjaaPx
