/- Stores, new blocks, arithmetic: each operation but the calls and those on whole slices leaves what 'aop' says; no condition. -/
import Derived.Test.YtkdohmgacodhjaaPx6
import Derived.Laws.BitsLemmas
set_option linter.unusedVariables false
set_option linter.unusedSimpArgs false
namespace Go.Proofs.YtkdohmgacodhjaaPx
open Go.RowKit

section
variable {S : Nat → Prop} {w0 : World} {n : Nat} {fr fr' : Nat → Prop} {fE : Nat → Option SV} {fH fH' : Nat → Option Blk} {ρ : Nat → Option Value} {a : Act} {w w' : World} {P : Program}

/-- The operation runs to a value, and leaves what e says. -/
def Out (P : Program) (S : Nat → Prop) (w0 : World) (n : Nat) (fr : Nat → Prop) (fE : Nat → Option SV) (fH : Nat → Option Blk) (a : Act) (w : World) (id : Nat) (s : Sem Next) (e : Eff) : Prop :=
  ∃ v w', (s.run P w = .ok (.value v) w' ∨ (s.run P w = .ok .skip w' ∧ v = undef)) ∧ After S w0 n (lessF fr id) fE (applyW e.wr fH) a e.dst v w'

theorem out_same (h : Holds S w0 n fr fE fH ρ a w) (id : Nat) {s : Sem Next} {sv : SV} {v : Value} (hr : s.run P w = .ok (.value v) w) (hd : sv.Den (Al S fH ρ) w ρ v) : Out P S w0 n fr fE fH a w id s ⟨sv, []⟩ :=
  ⟨v, w, .inl hr, ρ, h.fewer (fun _ q => q.1), hd⟩

theorem out_one (h : Holds S w0 n fr fE fH ρ a w) (id : Nat) {s : Sem Next} {sc : Sc} {v : Value} {e : Eff} (hr : s.run P w = .ok (.value v) w) (he : (one sc).Ev fE fH e) (hd : sc.Den (Al S fH ρ) w ρ v) : Out P S w0 n fr fE fH a w id s e := by
  obtain rfl := he
  exact out_same h id hr hd

def nv (s : Sem Value) : Sem Next := do pure (Next.value (← s))
def nu (s : Sem Unit) : Sem Next := do s; pure Next.skip
theorem run_v {s : Sem Value} {v : Value} (h : s.run P w = .ok v w') : (nv s).run P w = .ok (.value v) w' := by
  simp [nv, h]
theorem run_u {s : Sem Unit} (h : s.run P w = .ok () w') : (nu s).run P w = .ok .skip w' := by
  simp [nu, h]

theorem alloc_get (w : World) (o : Obj) : (w.alloc o).heap[w.heap.size]? = some o := by
  show (w.heap.push o)[w.heap.size]? = _
  simp

/-- A new box. -/
theorem Holds.new_box (h : Holds S w0 n fr fE fH ρ a w) {id : Nat} (hid : fr id) (cs : List Sc) (vs : Array Value) (t : TypeId) (hd : DenL (Al S fH ρ) w ρ cs vs.toList) :
    After S w0 n (lessF fr id) fE (upd fH id (some (.box cs))) a (.val (.one (.ptr id 0))) (.pointer (some (pl w.heap.size 0))) (w.alloc (.cells vs t)) := by
  have hs := Step.alloc h id hid (.cells vs t) (.box cs) (.pointer (some (pl w.heap.size 0))) (.inl rfl)
  have he : Ext ρ (upd ρ id (some (.pointer (some (pl w.heap.size 0))))) := Ext.upd_fresh (h.fresh id hid).1 _
  refine ⟨_, (Holds.alloc h id hid (.cells vs t) (.box cs) _ rfl ⟨w.heap.size, vs, t, rfl, h.base, alloc_get _ _, hd.step hs he⟩).fewer (fun j q => ⟨q.1, fun e => q.2 ⟨by omega, by omega⟩⟩), w.heap.size, upd_same _ _ _, rfl⟩

/-- Two lists of cells are held alike by a new row. -/
theorem Holds.new_row (h : Holds S w0 n fr fE fH ρ a w) {id : Nat} (hid : fr id) (t : Ty) (xs : List t.D) (vs : Array Value) (e : TypeId) (c : Nat) (hc : xs.length ≤ c) (hl : c * t.size ≤ vs.size)
    (hd : ∀ i (hi : i < xs.length), DenC (Al S fH ρ) w t (xs[i]'hi) (fun j => vs[i * t.size + j]?)) :
    After S w0 n (lessF fr id) fE (upd fH id (some (.row t xs))) a (.val (.one (.row id))) (.slice (some (pl w.heap.size 0)) xs.length c) (w.alloc (.cells vs e)) := by
  have hs := Step.alloc h id hid (.cells vs e) (.row t xs) (.slice (some (pl w.heap.size 0)) xs.length c) (.inl rfl)
  refine ⟨_, (Holds.alloc h id hid (.cells vs e) (.row t xs) _ rfl (.inr ⟨w.heap.size, 0, c, vs, e, rfl, h.base, hc, alloc_get _ _, by omega, fun i hi => ?_⟩)).fewer (fun j q => ⟨q.1, fun e => q.2 ⟨by omega, by omega⟩⟩), upd_same _ _ _⟩
  exact DenC.step hs t _ _ _ (fun j v _ e => by rw [Nat.zero_add]; exact e) (hd i hi)

/-- A box is written. -/
theorem Holds.set_box (h : Holds S w0 n fr fE fH ρ a w) {i o b : Nat} {cs xs : List Sc} {arr : Array Value} {t : TypeId} {vs : List Value} (hi : fH i = some (.box cs)) (hv : ρ i = some (.pointer (some (pl b 0))))
    (hh : w.heap[b]? = some (.cells arr t (0, 0))) (hx : DenL (Al S fH ρ) w ρ xs vs) (hl : o + xs.length ≤ cs.length) :
    Holds S w0 n fr fE (upd fH i (some (.box (setL cs o xs)))) ρ a (w.setArr b (putA arr o vs) t) := by
  obtain ⟨v', e1, b', arr', t', rfl, hB, hh', hd⟩ := h.blks i _ hi
  rw [hv] at e1
  simp only [Option.some.injEq, Value.pointer.injEq, Addr.mk.injEq, and_true] at e1
  subst e1
  rw [hh] at hh'
  simp only [Option.some.injEq, Obj.cells.injEq] at hh'
  obtain ⟨rfl, rfl, _⟩ := hh'
  have hb := (Array.getElem?_eq_some_iff.1 hh).1
  have hs := Step.write (blk' := .box (setL cs o xs)) (w' := w.setArr b (putA arr o vs) t) h hi hv rfl (fun k hk => setArr_other hk _ _)
  exact Holds.write h hi hv rfl (fun k hk => setArr_other hk _ _) rfl rfl rfl (setArr_size _ _) ⟨b, _, t, rfl, hB, setArr_same hb _ _, hd.set hs hx hl⟩

/-- An element of an own row is written. -/
theorem Holds.set_row (h : Holds S w0 n fr fE fH ρ a w) {i b o c q : Nat} {t : Ty} {xs : List t.D} {y : t.D} {arr : Array Value} {e : TypeId} {vs : List Value} (hi : fH i = some (.row t xs)) (hv : ρ i = some (.slice (some (pl b o)) xs.length c))
    (hq : q < xs.length) (hh : w.heap[b]? = some (.cells arr e (0, 0))) (hx : DenL (Al S fH ρ) w ρ (t.cells y) vs) :
    o + q * t.size + vs.length ≤ arr.size ∧ Holds S w0 n fr fE (upd fH i (some (.row t (xs.set q y)))) ρ a (w.setArr b (putA arr (o + q * t.size) vs) e) := by
  obtain ⟨v', e1, e2⟩ := h.blks i _ hi
  rw [hv] at e1
  obtain rfl := Option.some.inj e1
  rcases e2 with ⟨e2, _⟩ | ⟨b', o', c', arr', e', e2, hB, hc, hh', hsz, hr⟩
  · simp at e2
  · simp only [Value.slice.injEq, Option.some.injEq, Addr.mk.injEq, and_true] at e2
    obtain ⟨⟨rfl, rfl⟩, _, rfl⟩ := e2
    rw [hh] at hh'
    simp only [Option.some.injEq, Obj.cells.injEq] at hh'
    obtain ⟨rfl, rfl, _⟩ := hh'
    have hb := (Array.getElem?_eq_some_iff.1 hh).1
    have hs := Step.write (blk' := .row t (xs.set q y)) (w' := w.setArr b (putA arr (o + q * t.size) vs) e) h hi hv rfl (fun k hk => setArr_other hk _ _)
    have hvl : vs.length = t.size := by rw [← hx.length, Ty.cells_length]
    have hroom : o + q * t.size + vs.length ≤ arr.size := by
      have : (q + 1) * t.size ≤ c * t.size := Nat.mul_le_mul_right _ (by omega)
      rw [Nat.add_mul] at this
      omega
    refine ⟨hroom, Holds.write h hi hv rfl (fun k hk => setArr_other hk _ _) rfl rfl rfl (setArr_size _ _) (.inr ⟨b, o, c, _, e, by simp, hB, by simpa using hc, setArr_same hb _ _, by rw [putA_size]; exact hsz, fun k hk => ?_⟩)⟩
    simp only [List.length_set] at hk
    by_cases hkq : k = q
    · subst hkq
      have h1 := DenC.of_list t y vs hx
      rw [List.getElem_set_self]
      refine DenC.step hs t _ _ _ (fun j v hj e => ?_) h1
      rw [putA_get _ _ _ hroom, if_pos (by omega)]
      rw [show o + (k * t.size + j) - (o + k * t.size) = j by omega]
      exact e
    · rw [List.getElem_set_ne (fun e => hkq e.symm)]
      refine DenC.step hs t _ _ _ (fun j v hj e => ?_) (hr k hk)
      rw [putA_get _ _ _ hroom, if_neg]
      · exact e
      · intro hcon
        rcases Nat.lt_or_gt_of_ne hkq with hlt | hgt
        · have : (k + 1) * t.size ≤ q * t.size := Nat.mul_le_mul_right _ (by omega)
          rw [Nat.add_mul] at this
          omega
        · have : (q + 1) * t.size ≤ k * t.size := Nat.mul_le_mul_right _ (by omega)
          rw [Nat.add_mul] at this
          omega

theorem aStore_sound (h : Holds S w0 n fr fE fH ρ a w) {id : Nat} {t : TypeId} {p : Sc} {x : V1} {v u : Value} {e : Eff} (hp : p.Den (Al S fH ρ) w ρ v) (hx : x.Den (Al S fH ρ) w ρ u) (he : (aStore P t p x).Ev fE fH e) :
    Out P S w0 n fr fE fH a w id (nu (Instr.storeAt t v u)) e := by
  unfold aStore at he
  split at he
  · rename_i hc
    obtain ⟨hsz, hok⟩ := hc
    obtain ⟨hd, h1⟩ := hx.cells h.shape hok
    have hlen : x.cells.length = u.cells.toList.length := hd.length
    cases p with
    | ptr i o =>
      obtain ⟨blk, hb, he⟩ := he
      cases blk with
      | row _ _ => exact he.elim
      | box cs =>
        simp only [] at he
        split at he
        · rename_i hl
          obtain rfl := he
          obtain ⟨b, hρ, rfl⟩ := hp
          obtain ⟨v', e1, b', arr, et, rfl, hB, hh, hdd⟩ := h.blks i _ hb
          rw [hρ] at e1
          simp only [Option.some.injEq, Value.pointer.injEq, Addr.mk.injEq, and_true] at e1
          subst e1
          have hla : cs.length = arr.size := by have := hdd.length; simpa using this
          refine ⟨undef, _, .inr ⟨run_u ?_, rfl⟩, ρ, (Holds.set_box h hb hρ hh hd hl).fewer (fun _ q => q.1), rfl⟩
          simp only [Instr.storeAt, Instr.sureAddr, Sem.run_bind, Sem.run_pure, Result.andThen_ok]
          exact run_storeVar hh o u.cells.toList (by simp) (by rw [hsz, hlen]) (by omega) h1
        · exact he.elim
    | rp i t' q j =>
      cases j with
      | succ j => exact he.elim
      | zero =>
        obtain ⟨ys, ds, he, hys⟩ := sealL_sound h hd he
        obtain ⟨blk, hb, he⟩ := he
        cases blk with
        | box _ => exact he.elim
        | row t'' xs =>
          simp only [] at he
          split at he
          · rename_i hcond
            obtain ⟨rfl, hni⟩ := hcond
            split at he
            · rename_i y hy
              obtain rfl := he
              obtain ⟨b, o, m, c, hρ, hq, rfl⟩ := hp
              obtain ⟨v', e1, e2⟩ := h.blks i _ hb
              rw [hρ] at e1
              obtain rfl := Option.some.inj e1
              rcases e2 with ⟨e2, _⟩ | ⟨b', o', c', arr, et, e2, hB, hc', hh, hs, hr⟩
              · simp at e2
              · simp only [Value.slice.injEq, Option.some.injEq, Addr.mk.injEq, and_true] at e2
                obtain ⟨⟨rfl, rfl⟩, rfl, rfl⟩ := e2
                obtain ⟨v1, v2, hv12, d1, d2⟩ := ofCells_den _ _ _ _ _ hy (hys ds (fun _ q => q))
                have : v2 = [] := by cases v2 with | nil => rfl | cons => exact d2.elim
                subst this
                simp only [List.append_nil] at hv12
                have hb' : dropsF ds fH i = some (.row t' xs) := by simp [dropsF, hni, hb]
                obtain ⟨hroom, hH⟩ := Holds.set_row (h.drops ds) hb' hρ hq hh d1
                refine ⟨undef, w.setArr b (putA arr (o + q * t'.size) v1) et, .inr ⟨run_u ?_, rfl⟩, ρ, ?_, rfl⟩
                · simp only [Instr.storeAt, Instr.sureAddr, Sem.run_bind, Sem.run_pure, Result.andThen_ok]
                  exact run_storeVar hh _ v1 (by rw [← hv12]) (by rw [hsz, hlen, hv12]) (by simpa using hroom) (by rw [← hv12]; exact h1)
                · rw [applyW_append, applyW_drops]
                  exact hH.fewer (fun _ q => q.1)
            · exact he.elim
          · exact he.elim
    | _ => exact he.elim
  · exact he.elim

/-! ### Numbers -/
theorem wrapK (k : IntKind) (m : Int) : wrapI k m = k.wrap m := by
  cases k <;> first | rfl | (rw [IntKind.wrap_i64]; rfl)

theorem eqGuard_int (op : BinOp) (t : TypeId) (x y : Operand) (k k' : IntKind) (m m' : Int) : (eqGuard op t x y (.int k m) (.int k' m')).run P w = .ok () w := by
  unfold eqGuard
  cases op <;> rfl
theorem eqGuard_bool (op : BinOp) (t : TypeId) (x y : Operand) (p q : Bool) : (eqGuard op t x y (.bool p) (.bool q)).run P w = .ok () w := by
  unfold eqGuard
  cases op <;> rfl

theorem intBin_sound {op : BinOp} {k k' : IntKind} {x y : Int} {t : TypeId} {e : Eff} (hk : k = k' ∨ isShift op = true) (he : (intBin op k x y).Ev fE fH e) :
    ∃ sc v, e = ⟨.val (.one sc), []⟩ ∧ (binOp op t (.int k x) (.int k' y)).run P w = .ok v w ∧ sc.Den (Al S fH ρ) w ρ v := by
  cases op <;> simp only [intBin, isShift, or_false, Bool.false_eq_true] at he hk
  case add => subst hk; obtain rfl := he; exact ⟨.int k (wrapI k (x + y)), .int k (k.wrap (x + y)), rfl, by simp [binOp, Op.intArith], by rw [wrapK]; rfl⟩
  case sub => subst hk; obtain rfl := he; exact ⟨.int k (wrapI k (x - y)), .int k (k.wrap (x - y)), rfl, by simp [binOp, Op.intArith], by rw [wrapK]; rfl⟩
  case mul => subst hk; obtain rfl := he; exact ⟨.int k (wrapI k (x * y)), .int k (k.wrap (x * y)), rfl, by simp [binOp, Op.intArith], by rw [wrapK]; rfl⟩
  case quo =>
    subst hk
    rcases he with ⟨_, he⟩ | ⟨h0, he⟩
    · exact he.elim
    · obtain rfl := he
      have h0 := of_decide_eq_false h0
      exact ⟨.int k (wrapI k (x.tdiv y)), .int k (k.wrap (x.tdiv y)), rfl, by simp [binOp, Op.intDiv, h0], by rw [wrapK]; rfl⟩
  case rem =>
    subst hk
    rcases he with ⟨_, he⟩ | ⟨h0, he⟩
    · exact he.elim
    · obtain rfl := he
      have h0 := of_decide_eq_false h0
      exact ⟨.int k (x.tmod y), .int k (x.tmod y), rfl, by simp [binOp, Op.intDiv, h0], rfl⟩
  case and => subst hk; obtain rfl := he; exact ⟨.int k (bits .and k x y), .int k (bits .and k x y), rfl, by simp [binOp, Op.intBits, bits], rfl⟩
  case or => subst hk; obtain rfl := he; exact ⟨.int k (bits .or k x y), .int k (bits .or k x y), rfl, by simp [binOp, Op.intBits, bits], rfl⟩
  case shl =>
    rcases he with ⟨_, he⟩ | ⟨h0, he⟩
    · exact he.elim
    · obtain rfl := he
      have h0 := of_decide_eq_false h0
      exact ⟨.int k (wrapI k (x * 2 ^ min y.toNat k.bits)), .int k (k.wrap (x * 2 ^ min y.toNat k.bits)), rfl, by simp [binOp, Op.shift, h0], by rw [wrapK]; rfl⟩
  case shr =>
    rcases he with ⟨_, he⟩ | ⟨h0, he⟩
    · exact he.elim
    · obtain rfl := he
      have h0 := of_decide_eq_false h0
      exact ⟨.int k (x.fdiv (2 ^ min y.toNat k.bits)), .int k (x.fdiv (2 ^ min y.toNat k.bits)), rfl, by simp [binOp, Op.shift, h0], rfl⟩
  case eql => subst hk; obtain rfl := he; exact ⟨.bool (x == y), .bool (x == y), rfl, by simp [binOp, Op.intCmp], rfl⟩
  case neq => subst hk; obtain rfl := he; exact ⟨.bool (x != y), .bool (x != y), rfl, by simp [binOp, Op.intCmp], rfl⟩
  case lss => subst hk; obtain rfl := he; exact ⟨.bool (decide (x < y)), .bool (decide (x < y)), rfl, by simp [binOp, Op.intCmp], rfl⟩
  case leq => subst hk; obtain rfl := he; exact ⟨.bool (decide (x ≤ y)), .bool (decide (x ≤ y)), rfl, by simp [binOp, Op.intCmp], rfl⟩
  case gtr => subst hk; obtain rfl := he; exact ⟨.bool (decide (x > y)), .bool (decide (x > y)), rfl, by simp [binOp, Op.intCmp], rfl⟩
  case geq => subst hk; obtain rfl := he; exact ⟨.bool (decide (x ≥ y)), .bool (decide (x ≥ y)), rfl, by simp [binOp, Op.intCmp], rfl⟩
  all_goals exact he.elim

theorem equal_bool {t : TypeId} (hu : P.underlying t = some .bool) (p q : Bool) : (Op.equal t (.bool p) (.bool q)).run P w = .ok (p == q) w := by
  have key : ∀ d, (Op.equalIn (d + 1) t (.bool p) (.bool q)).run P w = .ok (p == q) w := by
    intro d
    unfold Op.equalIn
    rw [Sem.run_bind, run_underlying hu, Result.andThen_ok]
    rfl
  exact key 9999
theorem eql_bool {t : TypeId} (hu : P.underlying t = some .bool) (p q : Bool) : (binOp .eql t (.bool p) (.bool q)).run P w = .ok (.bool (p == q)) w := by
  show (do pure (Value.bool (← Op.equal t (.bool p) (.bool q))) : Sem Value).run P w = _
  rw [Sem.run_bind, equal_bool hu]; rfl
theorem neq_bool {t : TypeId} (hu : P.underlying t = some .bool) (p q : Bool) : (binOp .neq t (.bool p) (.bool q)).run P w = .ok (.bool (!(p == q))) w := by
  show (do pure (Value.bool (!(← Op.equal t (.bool p) (.bool q)))) : Sem Value).run P w = _
  rw [Sem.run_bind, equal_bool hu]; rfl

theorem equal_slice {t e : TypeId} (hu : P.underlying t = some (.slice e)) (p : Option Addr) (m c : Nat) : (Op.equal t (.slice p m c) (.slice none 0 0)).run P w = .ok (!p.isSome) w := by
  have key : ∀ d, (Op.equalIn (d + 1) t (.slice p m c) (.slice none 0 0)).run P w = .ok (!p.isSome) w := by
    intro d
    unfold Op.equalIn
    rw [Sem.run_bind, run_underlying hu, Result.andThen_ok]
    cases p <;> rfl
  exact key 9999
theorem eql_slice {t e : TypeId} (hu : P.underlying t = some (.slice e)) (p : Option Addr) (m c : Nat) : (binOp .eql t (.slice p m c) (.slice none 0 0)).run P w = .ok (.bool (!p.isSome)) w := by
  show (do pure (Value.bool (← Op.equal t (.slice p m c) (.slice none 0 0))) : Sem Value).run P w = _
  rw [Sem.run_bind, equal_slice hu]; rfl
theorem eqGuard_slice (op : BinOp) (t : TypeId) (x y : Operand) (p q : Option Addr) (m c m' c' : Nat) : (eqGuard op t x y (.slice p m c) (.slice q m' c')).run P w = .ok () w := by
  unfold eqGuard
  cases op <;> rfl

theorem aBin_sound {op : BinOp} {t : TypeId} {x y : Operand} {s s' : Sc} {v v' : Value} {e : Eff} (h : Holds S w0 n fr fE fH ρ a w) (id : Nat) (hs : s.Den (Al S fH ρ) w ρ v) (hs' : s'.Den (Al S fH ρ) w ρ v') (he : (aBin P op t s s').Ev fE fH e) :
    Out P S w0 n fr fE fH a w id (nv (do eqGuard op t x y v v'; binOp op t v v')) e := by
  unfold aBin at he
  split at he
  · rename_i k m k' m'
    simp only [Sc.Den] at hs hs'
    subst hs; subst hs'
    split at he
    · rename_i hk
      obtain ⟨sc, u, rfl, hr, hd⟩ := intBin_sound (P := P) (w := w) (S := S) (ρ := ρ) (t := t) hk he
      exact out_same h id (run_v (by rw [Sem.run_bind, eqGuard_int, Result.andThen_ok]; exact hr)) hd
    · exact he.elim
  · rename_i p q
    simp only [Sc.Den] at hs hs'
    subst hs; subst hs'
    split at he
    · rename_i hu
      obtain rfl := he
      refine out_same h id (run_v (v := .bool (p == q)) ?_) rfl
      rw [Sem.run_bind, eqGuard_bool, Result.andThen_ok]
      exact eql_bool hu p q
    · rename_i hu
      obtain rfl := he
      refine out_same h id (run_v (v := .bool (!(p == q))) ?_) rfl
      rw [Sem.run_bind, eqGuard_bool, Result.andThen_ok]
      exact neq_bool hu p q
    · exact he.elim
  · rename_i nn ty xs
    obtain ⟨_, p, m, c, rfl, hp⟩ := hs
    have hs' : v' = .slice none 0 0 := hs'
    subst hs'
    split at he
    · rename_i hu
      obtain rfl := he
      refine out_same h id (run_v (v := .bool (!p.isSome)) ?_) (by rw [hp]; rfl)
      rw [Sem.run_bind, eqGuard_slice, Result.andThen_ok]
      exact eql_slice hu p m c
    · exact he.elim
  · exact he.elim

theorem aUn_sound {op : UnOp} {s : Sc} {v : Value} {e : Eff} (h : Holds S w0 n fr fE fH ρ a w) (id : Nat) (hs : s.Den (Al S fH ρ) w ρ v) (he : (aUn op s).Ev fE fH e) : Out P S w0 n fr fE fH a w id (nv (Op.unary op v)) e := by
  unfold aUn at he
  split at he
  · simp only [Sc.Den] at hs
    subst hs
    obtain rfl := he
    rename_i b
    exact out_same h id (run_v (v := .bool (!b)) (by simp [Op.unary])) rfl
  · rename_i k m
    simp only [Sc.Den] at hs
    subst hs
    obtain rfl := he
    exact out_same h id (run_v (v := .int k (k.wrap (0 - m))) (by simp [Op.unary, Op.intArith])) (by rw [wrapK]; rfl)
  · exact he.elim
end
end Go.Proofs.YtkdohmgacodhjaaPx
