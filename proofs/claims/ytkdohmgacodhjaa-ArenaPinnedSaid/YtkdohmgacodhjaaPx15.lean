/- Every operation leaves what 'aop' says; no condition. -/
import Derived.Test.YtkdohmgacodhjaaPx14
set_option linter.unusedVariables false
set_option linter.unusedSimpArgs false
namespace Go.Proofs.YtkdohmgacodhjaaPx
open Go.RowKit

section
variable {S : Nat → Prop} {w0 : World} {n : Nat} {fr fr' : Nat → Prop} {fE : Nat → Option SV} {fH fH' : Nat → Option Blk} {ρ ρ' : Nat → Option Value} {a : Act} {w w' : World} {P : Program}

/-- The program's functions with a body are entered. -/
def Bodied (P : Program) (f : FuncId) : Prop := ∃ fn, P.funcs[f]? = some fn ∧ (fn.name == "runtime.NumGoroutine") = false ∧ fn.body.isNone = false

theorem run_callFunc {f : FuncId} (h : Bodied P f) (args : Array Value) : (callFunc f args).run P w = .ok (.enter f args) w := by
  obtain ⟨fn, h1, h2, h3⟩ := h
  simp only [callFunc, Sem.run_bind, run_program, Result.andThen_ok, h1, h2, h3, Bool.false_eq_true, if_false, Sem.run_pure]

/-- What a list of contracts says of a number. -/
def GOk (P : Program) (f : Nat) (s : Sig) : Prop := f = flagK ∨ (SigOk P (unK f) s ∧ Bodied P (unK f))
theorem GOk.get {f : Nat} {s : Sig} (h : GOk P f s) (hf : Nat.beq f flagK = false) : SigOk P (unK f) s ∧ Bodied P (unK f) := by
  rcases h with h | h
  · subst h; exact absurd hf (by decide)
  · exact h

/-- A step that leaves 'e' goes on. -/
theorem op_of_out {o : Oper} {id : Nat} {e : Eff} {next : Act → World → Prop} {Q : Exit → Act → World → Prop} (h : Out P S w0 n fr fE fH a w id (execOp a.eval o) e)
    (k : ∀ v w', After S w0 n (lessF fr id) fE (applyW e.wr fH) a e.dst v w' → next (a.put o.dst v) w') : o.wp P a w next Q := by
  obtain ⟨v, w', hr, ha⟩ := h
  have := k v w' ha
  unfold Oper.wp
  rcases hr with hr | ⟨hr, rfl⟩
  · rw [hr]; exact this
  · rw [hr]; exact this

theorem Out.congr {id : Nat} {e : Eff} {s s' : Sem Next} (h : Out P S w0 n fr fE fH a w id s e) (hs : s'.run P w = s.run P w) : Out P S w0 n fr fE fH a w id s' e := by
  obtain ⟨v, w', hr, ha⟩ := h
  exact ⟨v, w', by rw [hs]; exact hr, ha⟩

theorem sealB_sound {sm : Bool} {x : RM Eff} {e : Eff} (he : (sealB sm x).Ev fE fH e) : ∃ e0, x.Ev fE fH e0 ∧ (e0 = e ∨ ∃ i t xs, e0 = ⟨.val (.one (.row i)), [(i, some (.row t xs))]⟩ ∧ e = ⟨.val (.one (.sl t xs)), [(i, none)]⟩) := by
  unfold sealB at he
  split at he
  · split at he
    · rename_i hij
      subst hij
      obtain rfl := he
      exact ⟨_, rfl, .inr ⟨_, _, _, rfl, rfl⟩⟩
    · exact he.elim
  · exact ⟨_, he, .inl rfl⟩

theorem Out.sealed {id i : Nat} {t : Ty} {xs : List t.D} {s : Sem Next} (h : Out P S w0 n fr fE fH a w id s ⟨.val (.one (.row i)), [(i, some (.row t xs))]⟩) : Out P S w0 n fr fE fH a w id s ⟨.val (.one (.sl t xs)), [(i, none)]⟩ := by
  obtain ⟨v, w', hr, ρ', hH, hd⟩ := h
  have e : dropsF [i] (applyW [(i, some (Blk.row t xs))] fH) = applyW [(i, none)] fH := by
    funext j
    by_cases hj : j = i <;> simp [dropsF, applyW, upd, hj]
  have h1 := hH.drops [i]
  have h2 := hH.seal_row (i := i) (t := t) (xs := xs) (by simp [applyW, upd]) hd (ds := [i]) (by simp)
  rw [e] at h1 h2
  exact ⟨v, w', hr, ρ', h1, h2⟩

theorem aCall_sound (h : Holds S w0 n fr fE fH ρ a w) {Γ : FuncId → Option Sig} (hΓ : ∀ f s, Γ f = some s → GOk P f s) {id : Nat} (hid : ∀ i, id ≤ i → i < id + 32 → fr i) {g : FuncId} {xs : List V1} {us : List Value} {e : Eff} (hx : DenVs (Al S fH ρ) w ρ xs us)
    (he : (aCall Γ id g xs).Ev fE fH e) (R : Ending → World → Prop) (hR : ∀ v w', After S w0 n (lessF fr id) fE (applyW e.wr fH) a e.dst v w' → R (.returned v) w') : Calls P g us.toArray w R := by
  unfold aCall at he
  split at he
  · exact he.elim
  · exact he.elim
  rename_i hkey hflag
  split at he
  · rename_i s hs
    obtain ⟨hsig, _⟩ := (hΓ _ s hs).get hflag
    rw [Nat.eq_of_beq_eq_true hkey] at hsig
    obtain ⟨ys, ds, he, hys⟩ := sealAs_sound h hx he
    split at he
    · rename_i x hxx
      have henc := decTup_den s.args ys x us hxx (hys ds fun _ q => q)
      split at he
      · rename_i hsl
        split at he
        · rename_i hop
          simp only [Bool.and_eq_true] at hop
          obtain ⟨r, hr, he⟩ := he
          simp only [] at he
          split at he
          · rename_i hrange
            obtain rfl := he
            refine (hsig (fun _ => True) w x r us hr (fun _ _ => trivial) (encTup_names (fun b o v _ hv => ⟨trivial, hv⟩) s.args x henc)).mono ?_
            rintro e w' ⟨v, rfl, hbel, hres⟩
            obtain ⟨ρr, hb, hi, hsh, hden⟩ := out_any (S' := Al S fH ρ) hop.1 hop.2 (hres id)
            have hkeys : ∀ i blk, lkF (s.out id r).2 i = some blk → id ≤ i ∧ i < id + 32 := by
              intro i blk hl
              obtain ⟨p, hp, rfl⟩ := lkF_keys hl
              have := List.all_eq_true.1 hrange p hp
              simpa using this
            obtain ⟨ρ', hH, he2, hAl⟩ := h.merge hbel (fun i blk hl => hid i (hkeys i blk hl).1 (hkeys i blk hl).2) hb hi hsh
            refine hR v w' ⟨ρ', ?_, ?_⟩
            · simp only [applyW_some]
              refine hH.fewer fun j q => ⟨q.1, ?_⟩
              cases hl : lkF (s.out id r).2 j with
              | none => rfl
              | some blk => exact absurd (hkeys j blk hl) q.2
            · simp only [applyW_some]
              exact hden.step (fun b o v ha hv => ⟨hAl b ha, hv⟩) he2
          · exact he.elim
        · obtain ⟨r, hr, he⟩ := he
          simp only [] at he
          split at he
          · rename_i hrange
            obtain rfl := he
            have hd := h.drops ds
            refine (hsig (Al S (dropsF ds fH) ρ) w x r us hr (fun b hb => ⟨h.new b (Nat.le_trans h.base hb), fun i blk v e1 e2 e3 => ?_⟩) (encTup_names Step.refl s.args x henc)).mono ?_
            · obtain ⟨u, h1, h2⟩ := hd.blks i blk e1
              rw [e2] at h1
              obtain rfl := Option.some.inj h1
              have := (h2.lt e3).1
              omega
            · rintro e w' ⟨v, rfl, hbel, hres⟩
              obtain ⟨ρr, hb, hi, hsh, hden⟩ := hres id
              have hkeys : ∀ i blk, lkF (s.out id r).2 i = some blk → id ≤ i ∧ i < id + 32 := by
                intro i blk hl
                obtain ⟨p, hp, rfl⟩ := lkF_keys hl
                have := List.all_eq_true.1 hrange p hp
                simpa using this
              obtain ⟨ρ', hH, he2, hAl⟩ := hd.merge hbel (fun i blk hl => hid i (hkeys i blk hl).1 (hkeys i blk hl).2) hb hi hsh
              refine hR v w' ⟨ρ', ?_, ?_⟩
              · simp only [applyW_append, applyW_drops, applyW_some]
                refine hH.fewer fun j q => ⟨q.1, ?_⟩
                cases hl : lkF (s.out id r).2 j with
                | none => rfl
                | some blk => exact absurd (hkeys j blk hl) q.2
              · simp only [applyW_append, applyW_drops, applyW_some]
                exact hden.step (fun b o v ha hv => ⟨hAl b ha, hv⟩) he2
          · exact he.elim
      · rename_i hsl
        split at he
        · exact he.elim
        · rename_i hown
          obtain ⟨r, hr, he⟩ := he
          obtain rfl := he
          refine (hsig (fun _ => True) w x r us hr (fun _ _ => trivial) (encTup_names (fun b o v _ hv => ⟨trivial, hv⟩) s.args x henc)).mono ?_
          rintro e w' ⟨v, rfl, hbel, hres⟩
          obtain ⟨ρr, hb, hi, hsh, hden⟩ := hres id
          refine hR v w' ⟨ρ, (h.world hbel).fewer fun _ q => q.1, ?_⟩
          have ho : s.out id r = (encTup s.res r, []) := by simp [Sig.out, hown]
          rw [ho] at hden
          exact toSV_imp (encTup_noSl s.res (by simpa using hsl) r) hden
    · exact he.elim
  · exact he.elim

theorem caps_nil {A : Nat → Prop} {f : FuncId} {v : Value} (h : (Sc.func f []).Den A w ρ v) : v = .func (.func f) #[] #[] := by
  obtain ⟨vs, rfl, hl, _⟩ := h
  have : vs = [] := List.eq_nil_of_length_eq_zero hl
  subst this
  rfl

theorem sameOp_eval {x y : Operand} (h : sameOp x y = true) : a.eval x = a.eval y := by
  unfold sameOp at h
  split at h
  · simp only [beq_iff_eq] at h; subst h; rfl
  · simp only [beq_iff_eq] at h; subst h; rfl
  · simp at h

theorem DenVs.append {A : Nat → Prop} : ∀ {ss : List V1} {vs : List Value} {ss' : List V1} {vs' : List Value}, DenVs A w ρ ss vs → DenVs A w ρ ss' vs' → DenVs A w ρ (ss ++ ss') (vs ++ vs')
  | [], [], _, _, _, h' => h'
  | _ :: _, _ :: _, _, _, h, h' => ⟨h.1, DenVs.append h.2 h'⟩
  | [], _ :: _, _, _, h, _ => h.elim
  | _ :: _, [], _, _, h, _ => h.elim

theorem capsV_den {A : Nat → Prop} : ∀ {caps : List (Nat × Nat)} {vs : List Value}, vs.length = caps.length → (∀ (i : Nat) (io : Nat × Nat), caps[i]? = some io → ∃ b, ρ io.1 = some (Value.pointer (some (pl b 0))) ∧ vs[i]? = some (Value.pointer (some (pl b io.2)))) →
    DenVs A w ρ (caps.map fun p => .one (.ptr p.1 p.2)) vs
  | [], [], _, _ => trivial
  | p :: caps, v :: vs, hl, h => by
    refine ⟨?_, capsV_den (by simpa using hl) fun i io e => h (i + 1) io (by simpa using e)⟩
    obtain ⟨b, h1, h2⟩ := h 0 p rfl
    simp only [List.getElem?_cons_zero, Option.some.injEq] at h2
    exact ⟨b, h1, h2⟩
  | [], _ :: _, hl, _ => by simp at hl
  | _ :: _, [], hl, _ => by simp at hl

theorem ones_den {A : Nat → Prop} : ∀ {ss : List Sc} {vs : List Value}, DenL A w ρ ss vs → DenVs A w ρ (ss.map V1.one) vs
  | [], [], _ => trivial
  | _ :: _, _ :: _, h => ⟨h.1, ones_den h.2⟩
  | [], _ :: _, h => h.elim
  | _ :: _, [], h => h.elim

theorem cloV_den {A : Nat → Prop} {t : Ty} {y : t.D} {vs : List Value} (hl : vs.length = t.size) (h : DenC A w t y (fun j => vs[j]?)) : DenVs A w ρ ((t.cells y).map V1.one) vs := by
  obtain ⟨us, h1, h2⟩ := DenC.list (ρ := ρ) t y _ h
  have hlu : us.length = t.size := by rw [← h1.length, Ty.cells_length]
  have : us = vs := by
    apply List.ext_getElem?
    intro i
    by_cases hi : i < us.length
    · rw [h2 i (us[i]'hi) (List.getElem?_eq_getElem hi), List.getElem?_eq_getElem hi]
    · rw [List.getElem?_eq_none (by omega), List.getElem?_eq_none (by omega)]
  rw [← this]
  exact ones_den h1

theorem capsOf_spec {A : Nat → Prop} : ∀ {xs : List V1} {vs : List Value} {caps : List (Nat × Nat)}, DenVs A w ρ xs vs → capsOf xs = some caps → xs.length = caps.length ∧ ∀ (i : Nat) (io : Nat × Nat), caps[i]? = some io → ∃ b, ρ io.1 = some (Value.pointer (some (pl b 0))) ∧ vs[i]? = some (Value.pointer (some (pl b io.2)))
  | [], [], caps, _, h => by simp [capsOf] at h; subst h; exact ⟨rfl, fun i io e => by simp at e⟩
  | x :: xs, v :: vs, caps, hd, h => by
    cases x with
    | agg cs => simp [capsOf] at h
    | one s =>
      cases s with
      | ptr i o =>
        simp only [capsOf] at h
        split at h
        · rename_i r hr
          simp only [Option.some.injEq] at h
          subst h
          obtain ⟨h1, h2⟩ := capsOf_spec hd.2 hr
          refine ⟨by simp [h1], fun j io e => ?_⟩
          cases j with
          | zero =>
            simp only [List.getElem?_cons_zero, Option.some.injEq] at e
            subst e
            obtain ⟨b, g1, g2⟩ := hd.1
            exact ⟨b, g1, by simp [g2]⟩
          | succ j => exact h2 j io (by simpa using e)
        · cases h
      | _ => simp [capsOf] at h
  | [], _ :: _, _, hd, _ => hd.elim
  | _ :: _, [], _, hd, _ => hd.elim

/-- EVERY OPERATION. -/
theorem aop_sound (h : Holds S w0 n fr fE fH ρ a w) {Γ : FuncId → Option Sig} (hΓ : ∀ f s, Γ f = some s → GOk P f s) {id : Nat} (hid : ∀ i, id ≤ i → i < id + 32 → fr i) {o : Oper} {e : Eff}
    (he : (aop P Γ id o.op).Ev fE fH e) {next : Act → World → Prop} {Q : Exit → Act → World → Prop} (k : ∀ v w', After S w0 n (lessF fr id) fE (applyW e.wr fH) a e.dst v w' → next (a.put o.dst v) w') : o.wp P a w next Q := by
  have hid0 : fr id := hid id (Nat.le_refl _) (by omega)
  cases ho : o.op with
  | move x =>
    rw [ho] at he
    obtain ⟨sv, hd, he⟩ := ev_sound h he
    obtain rfl := he
    exact op_of_out (out_same h id (by simp only [execOp, ho, Sem.run_pure]) hd) k
  | assign x =>
    rw [ho] at he
    obtain ⟨sv, hd, he⟩ := ev_sound h he
    obtain rfl := he
    exact op_of_out (out_same h id (by simp only [execOp, ho, Sem.run_pure]) hd) k
  | pick c x y =>
    rw [ho] at he
    obtain ⟨s, hs, he⟩ := evS_sound h he
    split at he
    · rename_i b
      simp only [Sc.Den] at hs
      rcases he with ⟨hb, he⟩ | ⟨hb, he⟩
      · obtain ⟨sv, hd, he⟩ := ev_sound h he
        obtain rfl := he
        exact op_of_out (out_same h id (by simp only [execOp, ho, hs, asBool, Sem.run_bind, Sem.run_pure, Result.andThen_ok, hb, if_true]) hd) k
      · obtain ⟨sv, hd, he⟩ := ev_sound h he
        obtain rfl := he
        exact op_of_out (out_same h id (by simp only [execOp, ho, hs, asBool, Sem.run_bind, Sem.run_pure, Result.andThen_ok, hb, Bool.false_eq_true, if_false]) hd) k
    · exact he.elim
  | alloc t =>
    rw [ho] at he
    simp only [aop] at he
    split at he
    · rename_i cs hz
      obtain rfl := he
      exact op_of_out ((aAlloc_sound h hid0 hz).congr (by simp only [execOp, ho]; rfl)) k
    · exact he.elim
  | box t x =>
    rw [ho] at he
    obtain ⟨v, hv, he⟩ := evV_sound h he
    split at he
    · rename_i hok
      obtain rfl := he
      exact op_of_out ((aBox_sound h hid0 hv hok).congr (by simp only [execOp, ho]; rfl)) k
    · exact he.elim
  | build t parts =>
    rw [ho] at he
    obtain ⟨xs, hxs, he⟩ := evL_sound h he
    exact op_of_out ((aBuild_sound (id := id) h hxs he).congr (by simp only [execOp, ho]; rfl)) k
  | buildSlice t len parts =>
    rw [ho] at he
    by_cases hl : len = 0
    · subst hl
      exact op_of_out ((aEmptySlice_sound h hid0 he).congr (by simp only [execOp, ho]; rfl)) k
    simp only [aop, if_neg hl] at he
    obtain ⟨xs, hxs, he⟩ := evL_sound h he
    obtain ⟨e0, he0, hcase⟩ := sealB_sound he
    rcases hcase with rfl | ⟨i, t', xs', rfl, rfl⟩
    · exact op_of_out ((aBuildSlice_sound h hid0 hxs he0).congr (by simp only [execOp, ho]; rfl)) k
    · exact op_of_out ((aBuildSlice_sound h hid0 hxs he0).sealed.congr (by simp only [execOp, ho]; rfl)) k
  | load t x =>
    rw [ho] at he
    obtain ⟨s, hs, he⟩ := evS_sound h he
    obtain ⟨sv, u, hr, hd, he⟩ := aLoad_sound (P := P) h hs he
    obtain rfl := he
    exact op_of_out ((out_same h id (run_v hr) hd).congr (by simp only [execOp, ho]; rfl)) k
  | store t x y =>
    rw [ho] at he
    obtain ⟨s, hs, he⟩ := evS_sound h he
    obtain ⟨v, hv, he⟩ := evV_sound h he
    exact op_of_out ((aStore_sound (id := id) h hs hv he).congr (by simp only [execOp, ho]; rfl)) k
  | binOp op xt x y yt =>
    rw [ho] at he
    obtain ⟨s, hs, he⟩ := evV_sound h he
    obtain ⟨s', hs', he⟩ := evV_sound h he
    exact op_of_out ((aBin2_sound (x := x) (y := y) h id hs hs' he).congr (by simp only [execOp, ho]; rfl)) k
  | unOp op xt x =>
    rw [ho] at he
    obtain ⟨s, hs, he⟩ := evS_sound h he
    exact op_of_out ((aUn_sound h id hs he).congr (by simp only [execOp, ho]; rfl)) k
  | convert src dst x =>
    rw [ho] at he
    obtain ⟨q, m, hm, he⟩ := evI_sound h he
    split at he
    · rename_i d0 kk hu0 hu
      refine op_of_out (out_one h id (v := .int kk (kk.wrap m)) ?_ he (by rw [wrapK]; rfl)) k
      simp only [execOp, ho, hm]
      refine run_v (s := convert src dst (.int q m)) ?_
      simp only [convert, Sem.run_bind, run_underlying hu0, run_underlying hu, Result.andThen_ok, Conv.intToInt, Sem.run_pure]
    · exact he.elim
  | extract x i =>
    rw [ho] at he
    obtain ⟨sv, hd, he⟩ := ev_sound h he
    split at he
    · rename_i vs
      split at he
      · rename_i v hv
        obtain rfl := he
        obtain ⟨us, hu, hd⟩ := hd
        obtain ⟨u, hu2, hd2⟩ := DenVs.get hd hv
        refine op_of_out (out_same (sv := .val v) h id (v := u) ?_ hd2) k
        simp only [execOp, ho, hu]
        refine run_v (s := Instr.extract (.tuple us.toArray) i) ?_
        simp only [Instr.extract, List.getElem?_toArray, hu2, Sem.run_pure]
      · exact he.elim
    · exact he.elim
  | fieldAddr t x i =>
    rw [ho] at he
    obtain ⟨s, hs, he⟩ := evS_sound h he
    exact op_of_out ((aFieldAddr_sound (id := id) h hs he).congr (by simp only [execOp, ho]; rfl)) k
  | field t x i =>
    rw [ho] at he
    obtain ⟨s, hs, he⟩ := evV_sound h he
    exact op_of_out ((aField_sound (id := id) h hs he).congr (by simp only [execOp, ho]; rfl)) k
  | indexAddr t x i =>
    rw [ho] at he
    obtain ⟨s, hs, he⟩ := evS_sound h he
    obtain ⟨q, m, hm, he⟩ := evI_sound h he
    exact op_of_out ((aIndexAddr_sound (id := id) (k := q) h hs he).congr (by simp only [execOp, ho, hm]; rfl)) k
  | index t x i =>
    rw [ho] at he
    obtain ⟨s, hs, he⟩ := evV_sound h he
    obtain ⟨q, m, hm, he⟩ := evI_sound h he
    exact op_of_out ((aIndex_sound (id := id) (k := q) h hs he).congr (by simp only [execOp, ho, hm]; rfl)) k
  | makeSlice t l c =>
    rw [ho] at he
    simp only [aop] at he
    split at he
    · rename_i hsame
      obtain ⟨q, m, hm, he⟩ := evI_sound h he
      have hm2 : a.eval c = .int q m := by rw [← sameOp_eval hsame]; exact hm
      exact op_of_out ((aMakeSlice_sound h hid0 he).congr (by simp only [execOp, ho, hm, hm2]; rfl)) k
    · exact he.elim
  | slice t x lo hi mx =>
    rw [ho] at he
    cases mx with
    | some _ => exact he.elim
    | none =>
      obtain ⟨s, hs, he⟩ := evS_sound h he
      exact op_of_out ((aSlice_sound h hid0 hs he).congr (by simp only [execOp, ho]; rfl)) k
  | makeFunc g first captured =>
    rw [ho] at he
    cases g with
    | func f =>
      simp only [aop] at he
      split at he
      · rename_i hfirst
        obtain ⟨xs, hxs, he⟩ := evL_sound h he
        split at he
        · rename_i caps hcaps
          have hf : first = #[] := Array.toList_eq_nil_iff.1 hfirst
          subst hf
          refine op_of_out (out_one h id (v := .func (.func f) #[] (captured.map a.eval)) ?_ he ⟨captured.toList.map a.eval, by rw [← Array.toList_map], ?_, ?_⟩) k
          · have h0 : (#[] : Array Operand).map a.eval = #[] := by simp
            simp only [execOp, ho, h0]
            exact run_v (P := P) (w := w) (s := Instr.makeFunc (.func f) #[] (captured.map a.eval)) (v := .func (.func f) #[] (captured.map a.eval)) (w' := w) (by simp only [Instr.makeFunc, Sem.run_pure])
          · rw [← DenVs.length hxs]; exact (capsOf_spec hxs hcaps).1
          · exact (capsOf_spec hxs hcaps).2
        · exact he.elim
      · exact he.elim
    | _ => exact he.elim
  | call c =>
    rw [ho] at he
    simp only [aop] at he
    split at he
    · rename_i f hc
      obtain ⟨s, hs, he⟩ := evS_sound h he
      have go : ∀ {g : Nat} {xs : List V1} {cap : List Value}, a.eval f = .func (.func g) #[] cap.toArray → DenVs (Al S fH ρ) w ρ xs (c.args.toList.map a.eval ++ cap) → (aCall Γ id g xs).Ev fE fH e → o.wp P a w next Q := by
        intro g xs cap hf hxs he
        have hb : Bodied P g := by
          have he := he
          unfold aCall at he
          split at he
          · exact he.elim
          · exact he.elim
          rename_i hkey hflag
          split at he
          · rename_i s hs
            have := ((hΓ _ s hs).get hflag).2
            rwa [Nat.eq_of_beq_eq_true hkey] at this
          · exact he.elim
        unfold Oper.wp
        have hrun : (execOp a.eval o).run P w = .ok (.enter g (c.args.toList.map a.eval ++ cap).toArray) w := by
          simp only [execOp, ho, resolve, hc, hf, Deferred.ofValue, Sem.run_bind, Sem.run_pure, Result.andThen_ok, invoke, run_callFunc hb]
          congr 2
          apply Array.ext'
          simp
        rw [hrun]
        exact aCall_sound h hΓ hid hxs he _ k
      split at he
      · rename_i g caps
        obtain ⟨xs, hxs, he⟩ := evL_sound h he
        obtain ⟨vs, hf, hl, hcs⟩ := hs
        exact go hf (DenVs.append hxs (capsV_den hl hcs)) he
      · rename_i g t y
        obtain ⟨xs, hxs, he⟩ := evL_sound h he
        obtain ⟨vs, hf, hl, hcs⟩ := hs
        exact go hf (DenVs.append hxs (cloV_den hl hcs)) he
      · exact he.elim
    · rename_i b hc
      obtain ⟨cs, hr⟩ := exec_builtin (a := a) (w := w) (P := P) ho hc
      exact op_of_out ((aBuiltin_sound h hid0 he).congr hr) k
    · exact he.elim
  | _ => rw [ho] at he; exact he.elim

/-- nil, put into a variable of slice type: an empty row of its own. -/
def nilTy (P : Program) (o : Oper) : Option Ty := match o.op with
  | .assign (.const (.slice none 0 0)) => (match P.underlying o.type with | some (.slice e) => tyOf P 5 e | _ => none)
  | _ => none

/-! ### A few rows in a box: make([][]T, n) where n is written out (flagged functions alone) -/
def nestF (Γ : FuncId → Option Sig) : Bool := match Γ flagK with
  | some s => (match s.args with | [] => false | _ :: _ => true)
  | none => false

def rowsN (t : Ty) : Nat → Nat → List (Nat × Option Blk)
  | _, 0 => []
  | j, q + 1 => (j, some (.row t [])) :: rowsN t (j + 1) q
def cellsN : Nat → Nat → List Sc
  | _, 0 => []
  | j, q + 1 => .row j :: cellsN (j + 1) q

def aMakeNest (P : Program) (id : Nat) (t : TypeId) (k : IntKind) (m : Int) : RM Eff :=
  match P.underlying t with
  | some (.slice e) => (match tyOf P 5 e, (P.info? e).map (fun i => (i.size, i.bytes)), zeroOf P e, m with
    | some (.sl ty), some (sz, by'), some [.nil], .ofNat q => (match decide (k = .i64 ∧ sz = 1 ∧ by' ≤ 256), Nat.ble q 20 with
      | true, true => .ret ⟨.val (.one (.bsl id 0 q)), rowsN ty (id + 1) q ++ [(id, some (.box (cellsN (id + 1) q)))]⟩
      | _, _ => .fail)
    | _, _, _, _ => .fail)
  | _ => .fail

def aNilStore (P : Program) (id : Nat) (t : TypeId) (p : Sc) : RM Eff :=
  match P.underlying t with
  | some (.slice e) => (match tyOf P 5 e, szOf P t, p with
    | some ty, some 1, .ptr i o => .blk i fun
      | .box cs => (match Nat.beq i id, decide (o + 1 ≤ cs.length) with
        | false, true => .ret ⟨.val (.one .undef), [(id, some (.row ty [])), (i, some (.box (setL cs o [.row id])))]⟩
        | _, _ => .fail)
      | _ => .fail
    | _, _, _ => .fail)
  | _ => .fail

def aopN (P : Program) (Γ : FuncId → Option Sig) (id : Nat) (o : Op) : RM Eff := match o with
  | .makeSlice t l c => (match P.underlying t with
    | some (.slice e) => (match P.underlying e with
      | some (.slice _) => if sameOp l c = true then evI l fun k n => aMakeNest P id t k n else .fail
      | _ => aop P Γ id (.makeSlice t l c))
    | _ => .fail)
  | .store t x (.const (.slice none 0 0)) => evS x fun p => aNilStore P id t p
  | o => aop P Γ id o

theorem cellsN_length : ∀ (j q : Nat), (cellsN j q).length = q
  | _, 0 => rfl
  | j, q + 1 => by simp [cellsN, cellsN_length]

theorem cellsN_den {A : Nat → Prop} {w : World} {ρ : Nat → Option Value} : ∀ (j q : Nat), (∀ i, j ≤ i → i < j + q → ρ i = some (.slice none 0 0)) → DenL A w ρ (cellsN j q) (List.replicate q (.slice none 0 0))
  | _, 0, _ => trivial
  | j, q + 1, h => ⟨h j (Nat.le_refl _) (by omega), cellsN_den (j + 1) q fun i h1 h2 => h i (by omega) (by omega)⟩

theorem Holds.nil_rows (ty : Ty) : ∀ (q j : Nat) {fr : Nat → Prop} {fH : Nat → Option Blk} {ρ : Nat → Option Value}, Holds S w0 n fr fE fH ρ a w → (∀ i, j ≤ i → i < j + q → fr i) →
    ∃ ρ', Holds S w0 n (fun i => fr i ∧ ¬ (j ≤ i ∧ i < j + q)) fE (applyW (rowsN ty j q) fH) ρ' a w ∧ Ext ρ ρ' ∧ ∀ i, j ≤ i → i < j + q → ρ' i = some (.slice none 0 0)
  | 0, j, fr, fH, ρ, h, _ => ⟨ρ, h.fewer fun i q => q.1, Ext.refl ρ, fun i h1 h2 => absurd h2 (by omega)⟩
  | q + 1, j, fr, fH, ρ, h, hf => by
    have hj := hf j (Nat.le_refl _) (by omega)
    have h1 := h.alloc_nil j hj ty
    obtain ⟨ρ', h2, h3, h4⟩ := Holds.nil_rows ty q (j + 1) h1 (fun i a b => ⟨hf i (by omega) (by omega), by omega⟩)
    refine ⟨ρ', h2.fewer fun i q => ⟨⟨q.1, fun e => q.2 ⟨by omega, by omega⟩⟩, fun e => q.2 ⟨by omega, by omega⟩⟩, fun i v e => h3 i v (Ext.upd_fresh (h.fresh j hj).1 _ i v e), fun i a b => ?_⟩
    by_cases hi : i = j
    · subst hi
      exact h3 i _ (upd_same _ _ _)
    · exact h4 i (by omega) (by omega)

theorem aMakeNest_sound (h : Holds S w0 n fr fE fH ρ a w) {id : Nat} (hid : ∀ i, id ≤ i → i < id + 32 → fr i) {t : TypeId} {k : IntKind} {m : Int} {e : Eff} (he : (aMakeNest P id t k m).Ev fE fH e) :
    Out P S w0 n fr fE fH a w id (nv (Instr.makeSlice t (.int k m) (.int k m))) e := by
  unfold aMakeNest at he
  split at he
  · rename_i el hu
    split at he
    · rename_i ty sz by' q hty hinf hz
      split at he
      · rename_i hc hq
        obtain rfl := he
        have hq := Nat.le_of_ble_eq_true hq
        obtain ⟨rfl, rfl, hby⟩ := of_decide_eq_true hc
        obtain ⟨i, v, hi, hzv, hd, _⟩ := zeroOf_den (A := Al S fH ρ) (w := w) (ρ := ρ) hz
        rw [hi] at hinf
        simp only [Option.map_some, Option.some.injEq, Prod.mk.injEq] at hinf
        obtain ⟨hs1, hs2⟩ := hinf
        have hv1 : v.cells.toList = [.slice none 0 0] := by
          match hh : v.cells.toList, hd with
          | [u], hd => rw [show u = .slice none 0 0 from hd.1]
          | [], hd => exact hd.elim
          | _ :: _ :: _, hd => exact hd.2.elim
        have hv2 : v.cells = #[.slice none 0 0] := by rw [← Array.toArray_toList (xs := v.cells), hv1]
        have hr := run_make (P := P) w t el i v hu hi hzv .i64 .i64 (.ofNat q) (.ofNat q) (by simp) (Int.le_refl _) (by rw [hs2]; have : (by' : Int) * (q : Int) ≤ 256 * 1000000 := Int.mul_le_mul (by omega) (by omega) (by omega) (by omega); simp only [Int.ofNat_eq_natCast]; omega) (by simp only [Int.ofNat_eq_natCast]; omega)
        have e1 : (Int.ofNat q).toNat = q := rfl
        rw [e1, hs1, Nat.mul_one, hv2] at hr
        obtain ⟨ρ1, h1, _, h2⟩ := h.nil_rows ty q (id + 1) (fun i a b => hid i (by omega) (by omega))
        have hcells : (madeCells #[Value.slice none 0 0] q).toList = List.replicate q (.slice none 0 0) := by
          apply List.ext_getElem
          · simp [size_madeCells]
          · intro j a b
            rw [List.getElem_replicate]
            have hj : j < q := by simpa using b
            have := madeCells_get #[Value.slice none 0 0] q j hj
            have hlt : j < (madeCells #[Value.slice none 0 0] q).size := by simpa using a
            rw [Array.getElem?_eq_getElem hlt] at this
            rw [Array.getElem_toList]
            have h0 := Option.some.inj this
            rw [h0]
            simp [Nat.mod_one]
        have h3 := h1.new_box (id := id) ⟨hid id (Nat.le_refl _) (by omega), by omega⟩ (cellsN (id + 1) q) (madeCells #[Value.slice none 0 0] q) el (by rw [hcells]; exact cellsN_den (id + 1) q h2)
        obtain ⟨ρ2, h4, b, hb1, hb2⟩ := h3
        obtain rfl : b = w.heap.size := by simpa using hb2.symm
        refine ⟨_, _, .inl (run_v hr), ρ2, ?_, w.heap.size, hb1, rfl⟩
        simp only [applyW_append, applyW]
        exact h4.fewer fun i q => ⟨⟨q.1, fun e => q.2 ⟨by omega, by omega⟩⟩, fun e => q.2 ⟨by omega, by omega⟩⟩
      · exact he.elim
    · exact he.elim
  · exact he.elim

theorem aNilStore_sound (h : Holds S w0 n fr fE fH ρ a w) {id : Nat} (hid : ∀ i, id ≤ i → i < id + 32 → fr i) {t : TypeId} {p : Sc} {v : Value} {e : Eff} (hp : p.Den (Al S fH ρ) w ρ v) (he : (aNilStore P id t p).Ev fE fH e) :
    Out P S w0 n fr fE fH a w id (nu (Instr.storeAt t v (.slice none 0 0))) e := by
  unfold aNilStore at he
  split at he
  · rename_i el hu
    split at he
    · rename_i ty i o hty hsz
      obtain ⟨blk, hb, he⟩ := he
      dsimp only at he
      split at he
      · rename_i cs
        split at he
        · rename_i hne hlen
          obtain rfl := he
          have hne := Nat.ne_of_beq_eq_false hne
          have hlen := of_decide_eq_true hlen
          have h1 := h.alloc_nil id (hid id (Nat.le_refl _) (by omega)) ty
          have hs : Step (Al S fH ρ) w (Al S (upd fH id (some (.row ty []))) (upd ρ id (some (.slice none 0 0)))) w := by
            intro b o' u ha hu
            refine ⟨⟨ha.1, fun j bj vj ej eρ => ?_⟩, hu⟩
            by_cases hj : j = id
            · subst hj
              rw [upd_same] at eρ
              obtain rfl := Option.some.inj eρ
              simp [ownB]
            · rw [upd_other _ _ hj] at ej eρ
              exact ha.2 j bj vj ej eρ
          have hp1 : (Sc.ptr i o).Den (Al S (upd fH id (some (.row ty []))) (upd ρ id (some (.slice none 0 0)))) w (upd ρ id (some (.slice none 0 0))) v := Sc.Den.step hs (Ext.upd_fresh (h.fresh id (hid id (Nat.le_refl _) (by omega))).1 _) hp
          have hx : (V1.one (.row id)).Den (Al S (upd fH id (some (.row ty []))) (upd ρ id (some (.slice none 0 0)))) w (upd ρ id (some (.slice none 0 0))) (.slice none 0 0) := upd_same _ _ _
          have he1 : (aStore P t (.ptr i o) (.one (.row id))).Ev fE (upd fH id (some (.row ty []))) ⟨.val (.one .undef), [(i, some (.box (setL cs o [.row id])))]⟩ := by
            unfold aStore
            rw [if_pos ⟨hsz, by simp [V1.cells, Sc.ok]⟩]
            refine ⟨.box cs, by rw [upd_other _ _ hne]; exact hb, ?_⟩
            show RM.Ev fE _ (if o + 1 ≤ cs.length then RM.ret _ else RM.fail) _
            rw [if_pos hlen]
            rfl
          obtain ⟨v', w', hr, hA⟩ := aStore_sound (id := id) h1 hp1 hx he1
          refine ⟨v', w', hr, ?_⟩
          obtain ⟨ρ2, h2, h3⟩ := hA
          exact ⟨ρ2, h2.fewer fun j q => ⟨⟨q.1, fun e => q.2 ⟨by omega, by omega⟩⟩, q.2⟩, h3⟩
        · exact he.elim
      · exact he.elim
    · exact he.elim
  · exact he.elim

theorem aopN_sound (h : Holds S w0 n fr fE fH ρ a w) {Γ : FuncId → Option Sig} (hΓ : ∀ f s, Γ f = some s → GOk P f s) {id : Nat} (hid : ∀ i, id ≤ i → i < id + 32 → fr i) {o : Oper} {e : Eff}
    (he : (aopN P Γ id o.op).Ev fE fH e) {next : Act → World → Prop} {Q : Exit → Act → World → Prop} (k : ∀ v w', After S w0 n (lessF fr id) fE (applyW e.wr fH) a e.dst v w' → next (a.put o.dst v) w') : o.wp P a w next Q := by
  cases ho : o.op with
  | makeSlice t l c =>
    rw [ho] at he
    simp only [aopN] at he
    split at he
    · split at he
      · split at he
        · rename_i hsame
          obtain ⟨q, m, hm, he⟩ := evI_sound h he
          have hm2 : a.eval c = .int q m := by rw [← sameOp_eval hsame]; exact hm
          exact op_of_out ((aMakeNest_sound h hid he).congr (by simp only [execOp, ho, hm, hm2]; rfl)) k
        · exact he.elim
      · exact aop_sound h hΓ hid (by rw [ho]; exact he) k
    · exact he.elim
  | store t x y =>
    rw [ho] at he
    unfold aopN at he
    split at he
    · rename_i q1 q2 q3; cases q3
    · rename_i t' x' hq
      obtain ⟨rfl, rfl, rfl⟩ : t = t' ∧ x = x' ∧ y = .const (.slice none 0 0) := by simpa using hq
      obtain ⟨s, hs, he⟩ := evS_sound h he
      exact op_of_out ((aNilStore_sound h hid hs he).congr (by simp only [execOp, ho]; rfl)) k
    · exact aop_sound h hΓ hid (by rw [ho]; exact he) k
  | _ =>
    refine aop_sound h hΓ hid ?_ k
    rw [ho] at he ⊢
    exact he

def aopT (P : Program) (Γ : FuncId → Option Sig) (id : Nat) (o : Oper) : RM Eff := match nilTy P o with
  | some ty => .ret ⟨.val (.one (.row id)), [(id, some (.row ty []))]⟩
  | none => (match nestF Γ with
    | true => aopN P Γ id o.op
    | false => aop P Γ id o.op)

theorem aopT_sound (h : Holds S w0 n fr fE fH ρ a w) {Γ : FuncId → Option Sig} (hΓ : ∀ f s, Γ f = some s → GOk P f s) {id : Nat} (hid : ∀ i, id ≤ i → i < id + 32 → fr i) {o : Oper} {e : Eff}
    (he : (aopT P Γ id o).Ev fE fH e) {next : Act → World → Prop} {Q : Exit → Act → World → Prop} (k : ∀ v w', After S w0 n (lessF fr id) fE (applyW e.wr fH) a e.dst v w' → next (a.put o.dst v) w') : o.wp P a w next Q := by
  unfold aopT at he
  split at he
  · rename_i ty hty
    unfold nilTy at hty
    split at hty
    · rename_i ho
      obtain rfl := he
      refine op_of_out (id := id) (e := ⟨.val (.one (.row id)), [(id, some (.row ty []))]⟩) (Out.congr (s := nv (pure (.slice none 0 0))) ?_ (by simp only [execOp, ho]; rfl)) k
      exact ⟨.slice none 0 0, w, .inl rfl, upd ρ id (some (.slice none 0 0)), (h.alloc_nil id (hid id (Nat.le_refl _) (by omega)) ty).fewer fun _ q => lessF_of q, upd_same _ _ _⟩
    · cases hty
  · split at he
    · exact aopN_sound h hΓ hid he k
    · exact aop_sound h hΓ hid he k
end
end Go.Proofs.YtkdohmgacodhjaaPx
