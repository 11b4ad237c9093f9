/- Every operation leaves what 'aop' says; no condition. -/
import Derived.Test.YtfnkomlakgiicabPx14
set_option linter.unusedVariables false
set_option linter.unusedSimpArgs false
namespace Go.Proofs.YtfnkomlakgiicabPx
open Go.RowKit

section
variable {S : Nat → Prop} {w0 : World} {n : Nat} {fr fr' : Nat → Prop} {fE : Nat → Option SV} {fH fH' : Nat → Option Blk} {ρ ρ' : Nat → Option Value} {a : Act} {w w' : World} {P : Program}

/-- The program's functions with a body are entered. -/
def Bodied (P : Program) (f : FuncId) : Prop := ∃ fn, P.funcs[f]? = some fn ∧ (fn.name == "runtime.NumGoroutine") = false ∧ fn.body.isNone = false

theorem run_callFunc {f : FuncId} (h : Bodied P f) (args : Array Value) : (callFunc f args).run P w = .ok (.enter f args) w := by
  obtain ⟨fn, h1, h2, h3⟩ := h
  simp only [callFunc, Sem.run_bind, run_program, Result.andThen_ok, h1, h2, h3, Bool.false_eq_true, if_false, Sem.run_pure]

/-- A step that leaves 'e' goes on. -/
theorem op_of_out {o : Oper} {id : Nat} {e : Eff} {next : Act → World → Prop} {Q : Exit → Act → World → Prop} (h : Out P S w0 n fr fE fH a w id (execOp a.eval o) e)
    (k : ∀ v w', After S w0 n (lessF fr id) fE (applyW e.wr fH) a e.dst v w' → next (a.put o.dst v) w') : o.wp P a w next Q := by
  obtain ⟨v, w', hr, ha⟩ := h
  have := k v w' ha
  unfold Oper.wp
  rcases hr with hr | ⟨hr, rfl⟩
  · rw [hr]; exact this
  · rw [hr]; exact this

theorem Out.congr {id : Nat} {e : Eff} {s s' : Sem Next} (h : Out P S w0 n fr fE fH a w id s e) (hs : s'.run P w = s.run P w) : Out P S w0 n fr fE fH a w id s' e := by
  obtain ⟨v, w', hr, ha⟩ := h
  exact ⟨v, w', by rw [hs]; exact hr, ha⟩

theorem aCall_sound (h : Holds S w0 n fr fE fH ρ a w) {Γ : FuncId → Option Sig} (hΓ : ∀ f s, Γ f = some s → SigOk P f s ∧ Bodied P f) {id : Nat} (hid : ∀ i, id ≤ i → i < id + 32 → fr i) {g : FuncId} {xs : List V1} {us : List Value} {e : Eff} (hx : DenVs (Al S fH ρ) w ρ xs us)
    (he : (aCall Γ id g xs).Ev fE fH e) (R : Ending → World → Prop) (hR : ∀ v w', After S w0 n (lessF fr id) fE (applyW e.wr fH) a e.dst v w' → R (.returned v) w') : Calls P g us.toArray w R := by
  unfold aCall at he
  split at he
  · rename_i s hs
    obtain ⟨hsig, _⟩ := hΓ g s hs
    obtain ⟨ys, ds, he, hys⟩ := sealVs_sound h hx he
    split at he
    · rename_i x hxx
      have henc := decTup_den s.args ys x us hxx (hys ds fun _ q => q)
      split at he
      · rename_i hsl
        obtain ⟨r, hr, he⟩ := he
        simp only [] at he
        split at he
        · rename_i hrange
          obtain rfl := he
          have hd := h.drops ds
          refine (hsig (Al S (dropsF ds fH) ρ) w x r us hr (fun b hb => ⟨h.new b (Nat.le_trans h.base hb), fun i blk v e1 e2 e3 => ?_⟩) (encTup_names Step.refl s.args x henc)).mono ?_
          · obtain ⟨u, h1, h2⟩ := hd.blks i blk e1
            rw [e2] at h1
            obtain rfl := Option.some.inj h1
            have := (h2.lt e3).1
            omega
          · rintro e w' ⟨v, rfl, hbel, hres⟩
            obtain ⟨ρr, hb, hi, hsh, hden⟩ := hres id
            have hkeys : ∀ i blk, lkF (s.out id r).2 i = some blk → id ≤ i ∧ i < id + 32 := by
              intro i blk hl
              obtain ⟨p, hp, rfl⟩ := lkF_keys hl
              have := List.all_eq_true.1 hrange p hp
              simpa using this
            obtain ⟨ρ', hH, he2, hAl⟩ := hd.merge hbel (fun i blk hl => hid i (hkeys i blk hl).1 (hkeys i blk hl).2) hb hi hsh
            refine hR v w' ⟨ρ', ?_, ?_⟩
            · simp only [applyW_append, applyW_drops, applyW_some]
              refine hH.fewer fun j q => ⟨q.1, ?_⟩
              cases hl : lkF (s.out id r).2 j with
              | none => rfl
              | some blk => exact absurd (hkeys j blk hl) q.2
            · simp only [applyW_append, applyW_drops, applyW_some]
              exact hden.step (fun b o v ha hv => ⟨hAl b ha, hv⟩) he2
        · exact he.elim
      · rename_i hsl
        split at he
        · exact he.elim
        · rename_i hown
          obtain ⟨r, hr, he⟩ := he
          obtain rfl := he
          refine (hsig (fun _ => True) w x r us hr (fun _ _ => trivial) (encTup_names (fun b o v _ hv => ⟨trivial, hv⟩) s.args x henc)).mono ?_
          rintro e w' ⟨v, rfl, hbel, hres⟩
          obtain ⟨ρr, hb, hi, hsh, hden⟩ := hres id
          refine hR v w' ⟨ρ, (h.world hbel).fewer fun _ q => q.1, ?_⟩
          have ho : s.out id r = (encTup s.res r, []) := by simp [Sig.out, hown]
          rw [ho] at hden
          exact toSV_imp (encTup_noSl s.res (by simpa using hsl) r) hden
    · exact he.elim
  · exact he.elim

theorem caps_nil {A : Nat → Prop} {f : FuncId} {v : Value} (h : (Sc.func f []).Den A w ρ v) : v = .func (.func f) #[] #[] := by
  obtain ⟨vs, rfl, hl, _⟩ := h
  have : vs = [] := List.eq_nil_of_length_eq_zero hl
  subst this
  rfl

theorem sameOp_eval {x y : Operand} (h : sameOp x y = true) : a.eval x = a.eval y := by
  unfold sameOp at h
  split at h
  · simp only [beq_iff_eq] at h; subst h; rfl
  · simp only [beq_iff_eq] at h; subst h; rfl
  · simp at h

/-- EVERY OPERATION. -/
theorem aop_sound (h : Holds S w0 n fr fE fH ρ a w) {Γ : FuncId → Option Sig} (hΓ : ∀ f s, Γ f = some s → SigOk P f s ∧ Bodied P f) {id : Nat} (hid : ∀ i, id ≤ i → i < id + 32 → fr i) {o : Oper} {e : Eff}
    (he : (aop P Γ id o.op).Ev fE fH e) {next : Act → World → Prop} {Q : Exit → Act → World → Prop} (k : ∀ v w', After S w0 n (lessF fr id) fE (applyW e.wr fH) a e.dst v w' → next (a.put o.dst v) w') : o.wp P a w next Q := by
  have hid0 : fr id := hid id (Nat.le_refl _) (by omega)
  cases ho : o.op with
  | move x =>
    rw [ho] at he
    obtain ⟨sv, hd, he⟩ := ev_sound h he
    obtain rfl := he
    exact op_of_out (out_same h id (by simp only [execOp, ho, Sem.run_pure]) hd) k
  | assign x =>
    rw [ho] at he
    obtain ⟨sv, hd, he⟩ := ev_sound h he
    obtain rfl := he
    exact op_of_out (out_same h id (by simp only [execOp, ho, Sem.run_pure]) hd) k
  | pick c x y =>
    rw [ho] at he
    obtain ⟨s, hs, he⟩ := evS_sound h he
    split at he
    · rename_i b
      simp only [Sc.Den] at hs
      rcases he with ⟨hb, he⟩ | ⟨hb, he⟩
      · obtain ⟨sv, hd, he⟩ := ev_sound h he
        obtain rfl := he
        exact op_of_out (out_same h id (by simp only [execOp, ho, hs, asBool, Sem.run_bind, Sem.run_pure, Result.andThen_ok, hb, if_true]) hd) k
      · obtain ⟨sv, hd, he⟩ := ev_sound h he
        obtain rfl := he
        exact op_of_out (out_same h id (by simp only [execOp, ho, hs, asBool, Sem.run_bind, Sem.run_pure, Result.andThen_ok, hb, Bool.false_eq_true, if_false]) hd) k
    · exact he.elim
  | alloc t =>
    rw [ho] at he
    simp only [aop] at he
    split at he
    · rename_i cs hz
      obtain rfl := he
      exact op_of_out ((aAlloc_sound h hid0 hz).congr (by simp only [execOp, ho]; rfl)) k
    · exact he.elim
  | box t x =>
    rw [ho] at he
    obtain ⟨v, hv, he⟩ := evV_sound h he
    split at he
    · rename_i hok
      obtain rfl := he
      exact op_of_out ((aBox_sound h hid0 hv hok).congr (by simp only [execOp, ho]; rfl)) k
    · exact he.elim
  | build t parts =>
    rw [ho] at he
    obtain ⟨xs, hxs, he⟩ := evL_sound h he
    exact op_of_out ((aBuild_sound (id := id) h hxs he).congr (by simp only [execOp, ho]; rfl)) k
  | buildSlice t len parts =>
    rw [ho] at he
    by_cases hl : len = 0
    · subst hl
      exact op_of_out ((aEmptySlice_sound h hid0 he).congr (by simp only [execOp, ho]; rfl)) k
    simp only [aop, if_neg hl] at he
    obtain ⟨xs, hxs, he⟩ := evL_sound h he
    exact op_of_out ((aBuildSlice_sound h hid0 hxs he).congr (by simp only [execOp, ho]; rfl)) k
  | load t x =>
    rw [ho] at he
    obtain ⟨s, hs, he⟩ := evS_sound h he
    obtain ⟨sv, u, hr, hd, he⟩ := aLoad_sound (P := P) h hs he
    obtain rfl := he
    exact op_of_out ((out_same h id (run_v hr) hd).congr (by simp only [execOp, ho]; rfl)) k
  | store t x y =>
    rw [ho] at he
    obtain ⟨s, hs, he⟩ := evS_sound h he
    obtain ⟨v, hv, he⟩ := evV_sound h he
    exact op_of_out ((aStore_sound (id := id) h hs hv he).congr (by simp only [execOp, ho]; rfl)) k
  | binOp op xt x y yt =>
    rw [ho] at he
    obtain ⟨s, hs, he⟩ := evS_sound h he
    obtain ⟨s', hs', he⟩ := evS_sound h he
    exact op_of_out ((aBin_sound (x := x) (y := y) h id hs hs' he).congr (by simp only [execOp, ho]; rfl)) k
  | unOp op xt x =>
    rw [ho] at he
    obtain ⟨s, hs, he⟩ := evS_sound h he
    exact op_of_out ((aUn_sound h id hs he).congr (by simp only [execOp, ho]; rfl)) k
  | convert src dst x =>
    rw [ho] at he
    obtain ⟨q, m, hm, he⟩ := evI_sound h he
    split at he
    · rename_i d0 kk hu0 hu
      refine op_of_out (out_one h id (v := .int kk (kk.wrap m)) ?_ he (by rw [wrapK]; rfl)) k
      simp only [execOp, ho, hm]
      refine run_v (s := convert src dst (.int q m)) ?_
      simp only [convert, Sem.run_bind, run_underlying hu0, run_underlying hu, Result.andThen_ok, Conv.intToInt, Sem.run_pure]
    · exact he.elim
  | extract x i =>
    rw [ho] at he
    obtain ⟨sv, hd, he⟩ := ev_sound h he
    split at he
    · rename_i vs
      split at he
      · rename_i v hv
        obtain rfl := he
        obtain ⟨us, hu, hd⟩ := hd
        obtain ⟨u, hu2, hd2⟩ := DenVs.get hd hv
        refine op_of_out (out_same (sv := .val v) h id (v := u) ?_ hd2) k
        simp only [execOp, ho, hu]
        refine run_v (s := Instr.extract (.tuple us.toArray) i) ?_
        simp only [Instr.extract, List.getElem?_toArray, hu2, Sem.run_pure]
      · exact he.elim
    · exact he.elim
  | fieldAddr t x i =>
    rw [ho] at he
    obtain ⟨s, hs, he⟩ := evS_sound h he
    exact op_of_out ((aFieldAddr_sound (id := id) h hs he).congr (by simp only [execOp, ho]; rfl)) k
  | field t x i =>
    rw [ho] at he
    obtain ⟨s, hs, he⟩ := evV_sound h he
    exact op_of_out ((aField_sound (id := id) h hs he).congr (by simp only [execOp, ho]; rfl)) k
  | indexAddr t x i =>
    rw [ho] at he
    obtain ⟨s, hs, he⟩ := evS_sound h he
    obtain ⟨q, m, hm, he⟩ := evI_sound h he
    exact op_of_out ((aIndexAddr_sound (id := id) (k := q) h hs he).congr (by simp only [execOp, ho, hm]; rfl)) k
  | index t x i =>
    rw [ho] at he
    obtain ⟨s, hs, he⟩ := evV_sound h he
    obtain ⟨q, m, hm, he⟩ := evI_sound h he
    exact op_of_out ((aIndex_sound (id := id) (k := q) h hs he).congr (by simp only [execOp, ho, hm]; rfl)) k
  | makeSlice t l c =>
    rw [ho] at he
    simp only [aop] at he
    split at he
    · rename_i hsame
      obtain ⟨q, m, hm, he⟩ := evI_sound h he
      have hm2 : a.eval c = .int q m := by rw [← sameOp_eval hsame]; exact hm
      exact op_of_out ((aMakeSlice_sound h hid0 he).congr (by simp only [execOp, ho, hm, hm2]; rfl)) k
    · exact he.elim
  | slice t x lo hi mx =>
    rw [ho] at he
    cases mx with
    | some _ => exact he.elim
    | none =>
      obtain ⟨s, hs, he⟩ := evS_sound h he
      exact op_of_out ((aSlice_sound h hid0 hs he).congr (by simp only [execOp, ho]; rfl)) k
  | call c =>
    rw [ho] at he
    simp only [aop] at he
    split at he
    · rename_i f hc
      obtain ⟨s, hs, he⟩ := evS_sound h he
      split at he
      · rename_i g
        obtain ⟨xs, hxs, he⟩ := evL_sound h he
        have hf := caps_nil hs
        have hb : Bodied P g := by
          unfold aCall at he
          split at he
          · rename_i s hs; exact (hΓ g s hs).2
          · exact he.elim
        unfold Oper.wp
        have hrun : (execOp a.eval o).run P w = .ok (.enter g (c.args.toList.map a.eval).toArray) w := by
          simp only [execOp, ho, resolve, hc, hf, Deferred.ofValue, Sem.run_bind, Sem.run_pure, Result.andThen_ok, invoke, run_callFunc hb]
          congr 2
          apply Array.ext'
          simp
        rw [hrun]
        exact aCall_sound h hΓ hid hxs he _ k
      · exact he.elim
    · rename_i b hc
      obtain ⟨cs, hr⟩ := exec_builtin (a := a) (w := w) (P := P) ho hc
      exact op_of_out ((aBuiltin_sound h hid0 he).congr hr) k
    · exact he.elim
  | _ => rw [ho] at he; exact he.elim

/-- nil, put into a variable of slice type: an empty row of its own. -/
def nilTy (P : Program) (o : Oper) : Option Ty := match o.op with
  | .assign (.const (.slice none 0 0)) => (match P.underlying o.type with | some (.slice e) => tyOf P 5 e | _ => none)
  | _ => none

def aopT (P : Program) (Γ : FuncId → Option Sig) (id : Nat) (o : Oper) : RM Eff := match nilTy P o with
  | some ty => .ret ⟨.val (.one (.row id)), [(id, some (.row ty []))]⟩
  | none => aop P Γ id o.op

theorem aopT_sound (h : Holds S w0 n fr fE fH ρ a w) {Γ : FuncId → Option Sig} (hΓ : ∀ f s, Γ f = some s → SigOk P f s ∧ Bodied P f) {id : Nat} (hid : ∀ i, id ≤ i → i < id + 32 → fr i) {o : Oper} {e : Eff}
    (he : (aopT P Γ id o).Ev fE fH e) {next : Act → World → Prop} {Q : Exit → Act → World → Prop} (k : ∀ v w', After S w0 n (lessF fr id) fE (applyW e.wr fH) a e.dst v w' → next (a.put o.dst v) w') : o.wp P a w next Q := by
  unfold aopT at he
  split at he
  · rename_i ty hty
    unfold nilTy at hty
    split at hty
    · rename_i ho
      obtain rfl := he
      refine op_of_out (id := id) (e := ⟨.val (.one (.row id)), [(id, some (.row ty []))]⟩) (Out.congr (s := nv (pure (.slice none 0 0))) ?_ (by simp only [execOp, ho]; rfl)) k
      exact ⟨.slice none 0 0, w, .inl rfl, upd ρ id (some (.slice none 0 0)), (h.alloc_nil id (hid id (Nat.le_refl _) (by omega)) ty).fewer fun _ q => lessF_of q, upd_same _ _ _⟩
    · cases hty
  · exact aop_sound h hΓ hid he k
end
end Go.Proofs.YtfnkomlakgiicabPx
