/- Places, parts, new blocks, rows made and cut: each operation leaves what 'aop' says; no condition. -/
import Derived.Test.YtkdohmgacodhjaaPx7
import Derived.ChangeKeysEq
import Derived.Laws.StructEq
set_option linter.unusedVariables false
set_option linter.unusedSimpArgs false
namespace Go.Proofs.YtkdohmgacodhjaaPx
open Go.RowKit

section
variable {S : Nat → Prop} {w0 : World} {n : Nat} {fr fr' : Nat → Prop} {fE : Nat → Option SV} {fH fH' : Nat → Option Blk} {ρ : Nat → Option Value} {a : Act} {w w' : World} {P : Program}

theorem zeroOf_den {A : Nat → Prop} {t : TypeId} {cs : List Sc} (h : zeroOf P t = some cs) : ∃ i v, P.info? t = some i ∧ i.zero = some v ∧ DenL A w ρ cs v.cells.toList ∧ ∀ u ∈ v.cells.toList, u.oneCell' = true := by
  unfold zeroOf at h
  split at h
  · rename_i v hv
    obtain ⟨i, hi, hz⟩ := Option.bind_eq_some_iff.1 hv
    split at h
    · rename_i x hx
      simp only [Option.some.injEq] at h
      subst h
      refine ⟨i, v, hi, hz, ?_⟩
      unfold constSV at hx
      split at hx
      · obtain ⟨cs, hc, e⟩ := Option.map_eq_some_iff.1 hx
        simp only [SV.val.injEq] at e
        subst e
        obtain ⟨h1, h2, h3⟩ := constScs_den (A := A) (w := w) (ρ := ρ) hc
        exact ⟨h1, h2⟩
      · obtain ⟨s, hc, e⟩ := Option.map_eq_some_iff.1 hx
        simp only [SV.val.injEq] at e
        subst e
        obtain ⟨h1, h2, h3⟩ := constSc_den (A := A) (w := w) (ρ := ρ) hc
        have : v.cells = #[v] := by cases v <;> first | rfl | simp [Value.oneCell'] at h2
        rw [this]
        exact ⟨⟨h1, trivial⟩, by simpa using h2⟩
    · simp at h
  · simp at h

theorem run_zeroValue {t : TypeId} {i : TypeInfo} {v : Value} (hi : P.info? t = some i) (hz : i.zero = some v) : (zeroValue t).run P w = .ok v w := by
  simp [zeroValue, run_typeInfo hi, hz]

theorem run_newVar (t : TypeId) (v : Value) : (newVar t v).run P w = .ok (pl w.heap.size 0) (w.alloc (.cells v.cells t)) := by
  simp only [newVar, newRow, Sem.run_bind, run_newObj, Result.andThen_ok, Sem.run_pure]
  rfl

theorem aAlloc_sound (h : Holds S w0 n fr fE fH ρ a w) {id : Nat} (hid : fr id) {t : TypeId} {cs : List Sc} (hz : zeroOf P t = some cs) :
    Out P S w0 n fr fE fH a w id (nv (Instr.alloc t true (.tuple #[]))) ⟨.val (.one (.ptr id 0)), [(id, some (.box cs))]⟩ := by
  obtain ⟨i, v, hi, hz, hd, _⟩ := zeroOf_den (A := Al S fH ρ) (w := w) (ρ := ρ) hz
  refine ⟨_, _, .inl (run_v ?_), h.new_box hid cs v.cells t hd⟩
  simp only [Instr.alloc, Sem.run_bind, run_zeroValue hi hz, Result.andThen_ok, run_newVar, Sem.run_pure]

theorem aBox_sound (h : Holds S w0 n fr fE fH ρ a w) {id : Nat} (hid : fr id) {t : TypeId} {x : V1} {v : Value} (hx : x.Den (Al S fH ρ) w ρ v) (hok : x.cells.all Sc.ok = true) :
    Out P S w0 n fr fE fH a w id (nv (Instr.box t v)) ⟨.val (.one (.ptr id 0)), [(id, some (.box x.cells))]⟩ := by
  obtain ⟨hd, _⟩ := hx.cells h.shape hok
  refine ⟨_, _, .inl (run_v ?_), h.new_box hid x.cells v.cells t hd⟩
  simp only [Instr.box, Sem.run_bind, run_newVar, Result.andThen_ok, Sem.run_pure]

theorem run_fieldAt {t : TypeId} {i off sz b o : Nat} (hf : fieldOf P t i = some (off, sz)) (hs : sz ≠ 0) : (Instr.fieldAt t (.pointer (some (pl b o))) i).run P w = .ok (.pointer (some (pl b (o + off)))) w := by
  unfold fieldOf at hf
  split at hf
  · rename_i fs hu
    split at hf
    · rename_i f hff
      obtain ⟨s, hsz, e⟩ := Option.map_eq_some_iff.1 hf
      simp only [Prod.mk.injEq] at e
      obtain ⟨rfl, rfl⟩ := e
      simp only [Instr.fieldAt, Sem.run_bind, run_underlying hu, Result.andThen_ok, hff, Instr.sureAddr, Sem.run_pure, fieldPlace, run_sizeOf hsz, hs, if_false, add_pl]
    · simp at hf
  · simp at hf

theorem aFieldAddr_sound (h : Holds S w0 n fr fE fH ρ a w) {id : Nat} {t : TypeId} {i : Nat} {p : Sc} {v : Value} {e : Eff} (hp : p.Den (Al S fH ρ) w ρ v) (he : (aFieldAddr P t i p).Ev fE fH e) : Out P S w0 n fr fE fH a w id (nv (Instr.fieldAt t v i)) e := by
  unfold aFieldAddr at he
  split at he
  · rename_i off sz hf
    split at he
    · exact he.elim
    · rename_i hs
      cases p with
      | ptr b o =>
        obtain ⟨b', hρ, rfl⟩ := hp
        exact out_one h id (run_v (run_fieldAt hf hs)) he ⟨b', hρ, rfl⟩
      | rp b t' q j =>
        obtain ⟨b', o, m, c, hρ, hq, rfl⟩ := hp
        exact out_one h id (run_v (run_fieldAt hf hs)) he ⟨b', o, m, c, hρ, hq, by simp [Nat.add_assoc]⟩
      | ep t' y j =>
        obtain ⟨b', o, rfl, hA, hr⟩ := hp
        exact out_one h id (run_v (run_fieldAt hf hs)) he ⟨b', o, by simp [Nat.add_assoc], hA, hr⟩
      | _ => exact he.elim
  · exact he.elim

theorem run_part {t : TypeId} {ag : Bool} {sz : Nat} (h1 : isAggT P t = some ag) (h2 : szOf P t = some sz) (vs : List Value) (off : Nat) (hl : ((vs.drop off).take (if ag then sz else 1)).length = if ag then sz else 1) :
    (part t vs.toArray off).run P w = .ok (valOf ag ((vs.drop off).take (if ag then sz else 1))) w := by
  simp only [part, Sem.run_bind, run_isAgg h1, Result.andThen_ok]
  cases ag with
  | true =>
    simp only [if_true, Sem.run_bind, run_sizeOf h2, Result.andThen_ok, Sem.run_pure, valOf]
    congr 2
    apply Array.ext_getElem?
    intro i
    simp only [List.size_toArray, Array.getElem?_extract, List.getElem?_toArray, List.getElem?_take, List.getElem?_drop]
    simp only [if_true, List.length_take, List.length_drop] at hl
    by_cases hi : i < sz
    · rw [if_pos hi, if_pos (by omega)]
    · rw [if_neg hi, if_neg (by omega)]
  | false =>
    simp only [Bool.false_eq_true, if_false, List.length_take, List.length_drop] at hl ⊢
    have hlt : off < vs.length := by omega
    have e : vs.toArray[off]? = some (vs[off]'hlt) := by simp [hlt]
    rw [e]
    simp only [Sem.run_pure, valOf, Bool.false_eq_true, if_false]
    rw [List.drop_eq_getElem_cons hlt]
    rfl

theorem aField_sound (h : Holds S w0 n fr fE fH ρ a w) {id : Nat} {t : TypeId} {i : Nat} {x : V1} {v : Value} {e : Eff} (hx : x.Den (Al S fH ρ) w ρ v) (he : (aField P t i x).Ev fE fH e) : Out P S w0 n fr fE fH a w id (nv (Instr.field t v i)) e := by
  unfold aField at he
  split at he
  · rename_i cs fs hu
    split at he
    · rename_i f hff
      split at he
      · rename_i ag sz h1 h2
        obtain ⟨vs, rfl, hd⟩ := hx
        obtain ⟨sv, hsv, hl, he⟩ := mkVal_sound ((hd.drop f.offset).take _) he (by intro e; simp [e])
        obtain rfl := he
        refine out_same h id (run_v ?_) hsv
        simp only [Instr.field, Sem.run_bind, run_underlying hu, Result.andThen_ok, hff, asAgg, Sem.run_pure]
        exact run_part h1 h2 vs f.offset hl
      · exact he.elim
    · exact he.elim
  · exact he.elim

theorem aIndex_sound (h : Holds S w0 n fr fE fH ρ a w) {id : Nat} {t : TypeId} {k : IntKind} {m : Int} {x : V1} {v : Value} {e : Eff} (hx : x.Den (Al S fH ρ) w ρ v) (he : (aIndex P t x m).Ev fE fH e) : Out P S w0 n fr fE fH a w id (nv (Instr.index t v (.int k m))) e := by
  unfold aIndex at he
  split at he
  · rename_i len el cs hu
    split at he
    · rename_i ag sz h1 h2
      obtain ⟨q, hq, hm, he2⟩ := pick_sound he
      clear he
      subst hm
      obtain ⟨vs, rfl, hd⟩ := hx
      obtain ⟨sv, hsv, hl, he3⟩ := mkVal_sound ((hd.drop (q * sz)).take _) he2 (by intro e; simp [e])
      obtain rfl := he3
      refine out_same h id (run_v ?_) hsv
      simp only [Instr.index, asIntOf, Sem.run_bind, Sem.run_pure, run_underlying hu, Result.andThen_ok]
      rw [if_pos ⟨by omega, by omega⟩]
      simp only [Sem.run_bind, run_sizeOf h2, Result.andThen_ok, Int.toNat_natCast]
      exact run_part h1 h2 vs (q * sz) hl
    · exact he.elim
  · exact he.elim

theorem run_indexArr {t e : TypeId} {len b o q sz : Nat} (hu : P.underlying t = some (.array len e)) (hs : szOf P e = some sz) (hq : q < len) (k : IntKind) :
    (Instr.indexAt t (.pointer (some (pl b o))) (.int k q)).run P w = .ok (.pointer (some (pl b (o + q * sz)))) w := by
  simp only [Instr.indexAt, asIntOf, Sem.run_bind, Sem.run_pure, run_underlying hu, Result.andThen_ok, Instr.sureAddr]
  rw [if_pos ⟨by omega, by omega⟩]
  simp only [Sem.run_bind, run_sizeOf hs, Result.andThen_ok, Sem.run_pure, Int.toNat_natCast, add_pl]

theorem run_indexSl {t e : TypeId} {len c b o sz : Nat} {m : Int} (hu : P.underlying t = some (.slice e)) (hs : szOf P e = some sz) (h0 : 0 ≤ m) (h1 : m < len) (k : IntKind) :
    (Instr.indexAt t (.slice (some (pl b o)) len c) (.int k m)).run P w = .ok (.pointer (some (pl b (o + m.toNat * sz)))) w := by
  simp only [Instr.indexAt, asIntOf, Sem.run_bind, Sem.run_pure, run_underlying hu, Result.andThen_ok]
  rw [if_pos ⟨h0, h1⟩]
  simp only [Sem.run_bind, run_sizeOf hs, Result.andThen_ok, Sem.run_pure, add_pl]

theorem aIndexAddr_sound (h : Holds S w0 n fr fE fH ρ a w) {id : Nat} {t : TypeId} {k : IntKind} {m : Int} {p : Sc} {v : Value} {e : Eff} (hp : p.Den (Al S fH ρ) w ρ v) (he : (aIndexAddr P t p m).Ev fE fH e) : Out P S w0 n fr fE fH a w id (nv (Instr.indexAt t v (.int k m))) e := by
  unfold aIndexAddr at he
  split at he
  · rename_i len el hu
    split at he
    · rename_i sz b o hs
      split at he
      · exact he.elim
      · obtain ⟨q, hq, hm, he2⟩ := pick_sound he
        clear he
        subst hm
        obtain ⟨b', hρ, rfl⟩ := hp
        exact out_one h id (run_v (run_indexArr hu hs hq k)) he2 ⟨b', hρ, rfl⟩
    · exact he.elim
  · rename_i el hu
    split at he
    · rename_i sz t' xs hs
      split at he
      · rename_i hts
        rcases he with ⟨h0, he⟩ | ⟨_, he⟩
        · rcases he with ⟨h1, he⟩ | ⟨_, he⟩
          · have h0 := of_decide_eq_true h0
            have h1 := of_decide_eq_true h1
            obtain ⟨pa, c, rfl, hc, hr⟩ := RI.shape hp
            have hlt : m.toNat < xs.length := by omega
            obtain ⟨b, o, rfl, hA, hr⟩ := hr (by omega)
            refine out_one h id (run_v (run_indexSl hu hs h0 h1 k)) he ⟨b, o + m.toNat * sz, by simp, hA, ?_⟩
            rw [show xs.getD m.toNat t'.dflt = xs[m.toNat]'hlt by simp [List.getD_eq_getElem?_getD, hlt], ← hts]
            have := hr m.toNat hlt
            simpa [Nat.add_assoc] using this
          · exact he.elim
        · exact he.elim
      · exact he.elim
    · rename_i sz b hs
      obtain ⟨blk, hb, he⟩ := he
      cases blk with
      | box _ => exact he.elim
      | row t' xs =>
        simp only [] at he
        split at he
        · rename_i hts
          rcases he with ⟨h0, he⟩ | ⟨_, he⟩
          · rcases he with ⟨h1, he⟩ | ⟨_, he⟩
            · have h0 := of_decide_eq_true h0
              have h1 := of_decide_eq_true h1
              have hlt : m.toNat < xs.length := by omega
              obtain ⟨v', e1, e2⟩ := h.blks b _ hb
              have hp' : ρ b = some v := hp
              rw [hp'] at e1
              obtain rfl := Option.some.inj e1
              rcases e2 with ⟨_, e2⟩ | ⟨b', o, c, arr, et, rfl, hB, hc, hh, hsz, hr⟩
              · rw [e2] at hlt; simp at hlt
              · exact out_one h id (run_v (run_indexSl hu hs h0 h1 k)) he ⟨b', o, xs.length, c, hp', hlt, by simp [hts]⟩
            · exact he.elim
          · exact he.elim
        · exact he.elim
    · rename_i sz b o len hs
      obtain ⟨q, hq, hm, he2⟩ := pick_sound he
      clear he
      subst hm
      obtain ⟨b', hρ, rfl⟩ := hp
      have := run_indexSl (P := P) (w := w) (t := t) (e := el) (len := len) (c := len) (b := b') (o := o) (sz := sz) (m := q) hu hs (by omega) (by omega) k
      rw [Int.toNat_natCast] at this
      exact out_one h id (run_v this) he2 ⟨b', hρ, rfl⟩
    · exact he.elim
  · exact he.elim

theorem partOf_sound {t : TypeId} {off : Nat} {xs ys : List Sc} {us : List Value} {A : Nat → Prop} (h : partOf P t off xs = some ys) (hd : DenL A w ρ xs us) :
    ∃ ag vs, isAggT P t = some ag ∧ (part t us.toArray off).run P w = .ok (valOf ag vs) w ∧ DenL A w ρ ys vs := by
  unfold partOf at h
  split at h
  · rename_i ag sz h1 h2
    split at h
    · rename_i hl
      obtain rfl := Option.some.inj h
      have hd' := (hd.drop off).take (if ag then sz else 1)
      refine ⟨ag, _, h1, run_part h1 h2 us off ?_, hd'⟩
      rw [← hd'.length]
      exact Nat.eq_of_beq_eq_true hl
    · cases h
  · cases h

def EqS (P : Program) (d : Nat) (t : TypeId) (f : List Sc → List Sc → Option Bool) : Prop :=
  ∀ {A : Nat → Prop} {w : World} {ρ : Nat → Option Value} (xs ys : List Sc) (us vs : List Value) (r ag : Bool), f xs ys = some r → isAggT P t = some ag → DenL A w ρ xs us → DenL A w ρ ys vs → (Op.equalIn d t (valOf ag us) (valOf ag vs)).run P w = .ok r w

theorem eqFs_sound {d : Nat} {f : TypeId → List Sc → List Sc → Option Bool} {A : Nat → Prop} (ih : ∀ t, EqS P d t (f t)) {xs ys : List Sc} {us vs : List Value} (hx : DenL A w ρ xs us) (hy : DenL A w ρ ys vs) :
    ∀ (gs : List Field) (r : Bool), eqFs P f gs xs ys = some r → (Op.eqFields d us.toArray vs.toArray gs).run P w = .ok r w
  | [], r, h => by
    obtain rfl := Option.some.inj h
    simp [Op.eqFields]
  | g :: gs, r, h => by
    simp only [eqFs] at h
    split at h
    · cases h
    · rename_i hn
      split at h
      · rename_i a b ha hb
        split at h
        · rename_i q1 q2 h1 h2
          obtain rfl := Option.some.inj h
          obtain ⟨ag, u1, e1, e2, e3⟩ := partOf_sound ha hx
          obtain ⟨ag', v1, g1, g2, g3⟩ := partOf_sound hb hy
          rw [e1] at g1
          obtain rfl := Option.some.inj g1
          have he := ih g.type a b u1 v1 q1 ag h1 e1 e3 g3
          have hr := eqFs_sound ih hx hy gs q2 h2
          simp only [Op.eqFields, if_pos hn, Sem.run_bind, e2, g2, he, Result.andThen_ok]
          cases q1
          · simp
          · simpa using hr
        · cases h
      · cases h

theorem eqIs_sound {d : Nat} {e : TypeId} {f : List Sc → List Sc → Option Bool} {A : Nat → Prop} (ih : EqS P d e f) {xs ys : List Sc} {us vs : List Value} (hx : DenL A w ρ xs us) (hy : DenL A w ρ ys vs) :
    ∀ (is : List Nat) (r : Bool), eqIs P e f is xs ys = some r → (Op.eqItems d e (P.cellsOf e) us.toArray vs.toArray is).run P w = .ok r w
  | [], r, h => by
    obtain rfl := Option.some.inj h
    simp [Op.eqItems]
  | i :: is, r, h => by
    simp only [eqIs] at h
    split at h
    · rename_i a b ha hb
      split at h
      · rename_i q1 q2 h1 h2
        obtain rfl := Option.some.inj h
        obtain ⟨ag, u1, e1, e2, e3⟩ := partOf_sound ha hx
        obtain ⟨ag', v1, g1, g2, g3⟩ := partOf_sound hb hy
        rw [e1] at g1
        obtain rfl := Option.some.inj g1
        have he := ih a b u1 v1 q1 ag h1 e1 e3 g3
        have hr := eqIs_sound ih hx hy is q2 h2
        simp only [Op.eqItems, Sem.run_bind, e2, g2, he, Result.andThen_ok]
        cases q1
        · simp
        · simpa using hr
      · cases h
    · cases h

theorem eqTy_sound (k : Nat) : ∀ (d : Nat) (t : TypeId), EqS P (k + d) t (eqTy P d t)
  | 0, t => fun xs ys us vs r ag h => by simp [eqTy] at h
  | d + 1, t => by
    intro xs ys us vs r ag h hag hx hy
    rename_i A w ρ
    simp only [eqTy] at h
    split at h
    · rename_i q hu
      split at h
      · rename_i k1 m k2 m'
        split at h
        · rename_i hk
          subst hk
          obtain rfl := Option.some.inj h
          have : ag = false := by simpa [isAggT, hu] using hag.symm
          subst this
          match us, vs, hx, hy with
          | [u], [v], hx, hy =>
            have e1 : u = .int k1 m := hx.1
            have e2 : v = .int k1 m' := hy.1
            subst e1; subst e2
            show (Op.equalIn (k + d + 1) t (.int k1 m) (.int k1 m')).run P w = _
            unfold Op.equalIn
            rw [Sem.run_bind, run_underlying hu, Result.andThen_ok]
            simp
          | [], _, hx, _ => exact hx.elim
          | _ :: _ :: _, _, hx, _ => exact hx.2.elim
          | _, [], _, hy => exact hy.elim
          | _, _ :: _ :: _, _, hy => exact hy.2.elim
        · cases h
      · cases h
    · rename_i hu
      split at h
      · rename_i a b
        obtain rfl := Option.some.inj h
        have : ag = false := by simpa [isAggT, hu] using hag.symm
        subst this
        match us, vs, hx, hy with
        | [u], [v], hx, hy =>
          have e1 : u = .bool a := hx.1
          have e2 : v = .bool b := hy.1
          subst e1; subst e2
          show (Op.equalIn (k + d + 1) t (.bool a) (.bool b)).run P w = _
          unfold Op.equalIn
          rw [Sem.run_bind, run_underlying hu, Result.andThen_ok]
          rfl
        | [], _, hx, _ => exact hx.elim
        | _ :: _ :: _, _, hx, _ => exact hx.2.elim
        | _, [], _, hy => exact hy.elim
        | _, _ :: _ :: _, _, hy => exact hy.2.elim
      · cases h
    · rename_i fs hu
      split at h
      · rename_i hp
        have : ag = true := by simpa [isAggT, hu] using hag.symm
        subst this
        have hf : P.fieldsOf t = fs := by simp [Program.fieldsOf, hu]
        show (Op.equalIn (k + d + 1) t (.agg us.toArray) (.agg vs.toArray)).run P w = _
        rw [run_equalIn_struct (P := P) w (k + d) t us.toArray vs.toArray (by rw [hf]; exact hu) hp, hf]
        exact eqFs_sound (fun t => eqTy_sound k d t) hx hy fs.toList r h
      · cases h
    · rename_i n e hu
      split at h
      · rename_i i hi
        have : ag = true := by simpa [isAggT, hu] using hag.symm
        subst this
        show (Op.equalIn (k + d + 1) t (.agg us.toArray) (.agg vs.toArray)).run P w = _
        rw [run_equalIn_array (P := P) w (k + d) us.toArray vs.toArray hu hi]
        exact eqIs_sound (eqTy_sound k d e) hx hy (List.range n) r h
      · cases h
    · cases h

theorem eqGuard_agg {op : BinOp} {t : TypeId} (x y : Operand) (us vs : Array Value) (h : P.eqGuardType P.depth t = false) : (eqGuard op t x y (.agg us) (.agg vs)).run P w = .ok () w := by
  unfold eqGuard
  cases op <;> simp [h, Sem.run_bind, run_program]

theorem aBin2_sound {op : BinOp} {t : TypeId} {x y : Operand} {a' b' : V1} {v v' : Value} {e : Eff} (h : Holds S w0 n fr fE fH ρ a w) (id : Nat) (hs : a'.Den (Al S fH ρ) w ρ v) (hs' : b'.Den (Al S fH ρ) w ρ v') (he : (aBin2 P op t a' b').Ev fE fH e) :
    Out P S w0 n fr fE fH a w id (nv (do eqGuard op t x y v v'; binOp op t v v')) e := by
  unfold aBin2 at he
  split at he
  · exact aBin_sound h id hs hs' he
  · rename_i xs ys
    obtain ⟨us, rfl, hx⟩ := hs
    obtain ⟨vs, rfl, hy⟩ := hs'
    have key : ∀ r, isAggT P t = some true → eqTy P 8 t xs ys = some r → (Op.equal t (.agg us.toArray) (.agg vs.toArray)).run P w = .ok r w := fun r ha hr => eqTy_sound 9992 8 t xs ys us vs r true hr ha hx hy
    unfold aEqAgg at he
    split at he
    · rename_i r ha hg hr
      obtain rfl := he
      refine out_same h id (run_v (v := .bool r) ?_) rfl
      rw [Sem.run_bind, eqGuard_agg x y _ _ hg, Result.andThen_ok]
      show (do pure (Value.bool (← Op.equal t (.agg us.toArray) (.agg vs.toArray))) : Sem Value).run P w = _
      rw [Sem.run_bind, key r ha hr]; rfl
    · rename_i r ha hg hr
      obtain rfl := he
      refine out_same h id (run_v (v := .bool !r) ?_) rfl
      rw [Sem.run_bind, eqGuard_agg x y _ _ hg, Result.andThen_ok]
      show (do pure (Value.bool (!(← Op.equal t (.agg us.toArray) (.agg vs.toArray)))) : Sem Value).run P w = _
      rw [Sem.run_bind, key r ha hr]; rfl
    · exact he.elim
  · exact he.elim
end
end Go.Proofs.YtkdohmgacodhjaaPx
