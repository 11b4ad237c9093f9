/- 'chain.along$1', the iterator's loop; no condition. -/
import Derived.Test.YthnbleblmpnfhaaFolA
set_option linter.unusedVariables false
set_option linter.unusedSimpArgs false
namespace Go.Proofs.YthnbleblmpnfhaaFn
open Go Go.RowKit Go.Shelf Go.Proofs.YthnbleblmpnfhaaPx
attribute [local go_sem] Oper.semAt_some

/-- The five variables that the iterator has captured. -/
structure Boxes (W : World) (b1 b2 b3 b4 b5 : Nat) (head : Int) (c : Cfg) (m : Value) (which next : Int) : Prop where
  h1 : Boxed W b1 3 (.int .i64 head)
  h2 : W.heap[b2]? = some (.cells #[.int .i64 c.1, .int .i64 c.2.1, .int .i64 c.2.2.1, .int .i64 c.2.2.2.1, .int .i64 c.2.2.2.2] 23 (0, 0))
  h3 : Boxed W b3 24 m
  h4 : Boxed W b4 3 (.int .i64 which)
  h5 : Boxed W b5 3 (.int .i64 next)

theorem Boxes.kept {W W' : World} {b1 b2 b3 b4 b5 : Nat} {head : Int} {c : Cfg} {m : Value} {which next : Int} {K : Nat → Prop} (h : Boxes W b1 b2 b3 b4 b5 head c m which next) (hk : Keep K W W')
    (k1 : K b1) (k2 : K b2) (k3 : K b3) (k4 : K b4) (k5 : K b5) : Boxes W' b1 b2 b3 b4 b5 head c m which next :=
  ⟨(hk.block _ k1 h.h1.lt).trans h.h1, (hk.block _ k2 (Array.getElem?_eq_some_iff.1 h.h2).1).trans h.h2, (hk.block _ k3 h.h3.lt).trans h.h3, (hk.block _ k4 h.h4.lt).trans h.h4, (hk.block _ k5 h.h5.lt).trans h.h5⟩

theorem RI_keep {W W' : World} {n0 : Nat} {m : Value} {xs : List Int} {K : Nat → Prop} (h : RI (· < n0) W .int m xs) (hk : Keep K W W') (hK : ∀ k, k < n0 → K k) : RI (· < n0) W' .int m xs :=
  Go.Proofs.YthnbleblmpnfhaaPx.RI.step (fun b o v hb hv => ⟨hb, by rw [cell_eq (hk.block b (hK b hb) (cell_lt hv))]; exact hv⟩) h

set_option maxRecDepth 100000 in
set_option maxHeartbeats 4000000 in
theorem it_in (F : Fence) (hF : Hid (F = Fence.wide)) (n : Nat) (hn : 1 ≤ n) (h34 : F.fn 34) (h12 : F.fn 12) (h35 : F.fn 35) (hro : F.round = none) (n0 b1 b2 b3 b4 b5 l : Nat)
    (head : Int) (c : Cfg) (m : Value) (xs : List Int) (which next : Int) (W : World) (hb1 : b1 < W.heap.size) (hb2 : b2 < W.heap.size) (hb3 : b3 < W.heap.size) (hb4 : b4 < W.heap.size) (hb5 : b5 < W.heap.size) (hn0 : n0 ≤ W.heap.size)
    (J : List Int → World → Prop) (Jx : Int → World → Prop)
    (hJ : ∀ out W1 W2, J out W1 → Keep (· ≠ W.heap.size) W1 W2 → J out W2)
    (hY : ∀ out ref e W1, W.heap.size < W1.heap.size → J out W1 → (e = 0 → out.length + 1 ≤ 1000000) → YieldAt F (n - 1) Try.prog l #[.int .i64 ref, .int .i64 e] W1 fun en W' =>
      (e = 0 ∧ en = .returned (.bool true) ∧ J (out ++ [ref]) W' ∧ Keep (fun k => k < n0 ∨ k = b1 ∨ k = b2 ∨ k = b3 ∨ k = b4 ∨ k = b5 ∨ k = W.heap.size) W1 W') ∨ (e ≠ 0 ∧ en = .returned (.bool false) ∧ Jx e W'))
    (r : List Int × Int) (k : Nat)
    (hB : Boxes W b1 b2 b3 b4 b5 head c m which next) (hM : RI (· < n0) W .int m xs) (hJs : J [] W) (hk : chain_Follow_K k c xs which next head [] [] = some r) :
    CallsIn F n Try.prog 34 #[.func (.yield l) #[] #[], .pointer (some ⟨b1, 0, none⟩), .pointer (some ⟨b2, 0, none⟩), .pointer (some ⟨b3, 0, none⟩), .pointer (some ⟨b4, 0, none⟩), .pointer (some ⟨b5, 0, none⟩)] W fun en W' =>
      (∃ v, en = .returned v) ∧ ((r.2 = 0 ∧ J r.1 W') ∨ (r.2 ≠ 0 ∧ r.1 = [] ∧ Jx r.2 W')) := by
  have hmm := @run_makeMap Try.prog
  refine callsIn_of_wp Try.func34 rfl h34 ?_ hro
  simp only [Try.ntmps34, List.size_toArray, List.length_cons, List.length_nil, Nat.reduceAdd, Nat.reduceSub, Array.replicate_succ, Array.replicate_zero, List.push_toArray, List.append_toArray, List.nil_append, List.cons_append]
  have hm0 := World.ownsMap_made (H := Unit) W Try.prog 3 (plainElem Try.prog 4)
  have hB1 : Boxes (W.alloc (.map #[] 0)) b1 b2 b3 b4 b5 head c m which next := hB.kept (K := fun _ => True) (Keep.alloc _ _) trivial trivial trivial trivial trivial
  have c1 := hB1.h1.cell
  gi_wp2
  refine wpIn_loop_fuel (fun k a w => ∃ (ref : Int) (met out : List Int), Boxes w b1 b2 b3 b4 b5 head c m which next ∧ RI (· < n0) w .int m xs ∧ Met w W.heap.size met ∧ J out w ∧ W.heap.size < w.heap.size ∧ chain_Follow_K k c xs which next ref met out = some r ∧
      ∃ u9 u10 u11 u12 u13 u14 u15 u16 u17 u18 u19 u20 u21 u22 u23 u24 u25 u26 u27 u28 u29 u30 u31 u32 u33 u34 u35 u36 u37 u38 u39 u40 u41 u42 u43 u44 u45 u46 u47 u48 u49 u50 u51 : Value, a = { tmps := #[.func (.yield l) #[] #[], .pointer (some ⟨b1, 0, none⟩), .pointer (some ⟨b2, 0, none⟩), .pointer (some ⟨b3, 0, none⟩), .pointer (some ⟨b4, 0, none⟩), .pointer (some ⟨b5, 0, none⟩), undef, .map (some W.heap.size), .int .i64 ref, u9, u10, u11, u12, u13, u14, u15, u16, u17, u18, u19, u20, u21, u22, u23, u24, u25, u26, u27, u28, u29, u30, u31, u32, u33, u34, u35, u36, u37, u38, u39, u40, u41, u42, u43, u44, u45, u46, u47, u48, u49, u50, u51], defers := [] }) ?_ ?_ k _ _ ?_
  · rintro a w ⟨ref, met, out, _, _, _, _, _, h, _⟩
    cases h
  · rintro k a w ⟨ref, met, out, hB, hM, hmet, hJs, hlt, hk, u9, u10, u11, u12, u13, u14, u15, u16, u17, u18, u19, u20, u21, u22, u23, u24, u25, u26, u27, u28, u29, u30, u31, u32, u33, u34, u35, u36, u37, u38, u39, u40, u41, u42, u43, u44, u45, u46, u47, u48, u49, u50, u51, rfl⟩
    rw [chain_Follow_K] at hk
    by_cases href : ref = 0
    · subst href
      have hk := Option.some.inj (show some (out, (0 : Int)) = some r from hk)
      subst hk
      gi_wp2
      go_end0
      exact ⟨⟨_, rfl⟩, hJs⟩
    · rw [show (ref != 0) = true by simpa using href] at hk
      simp only [cond_true] at hk
      obtain ⟨r2, e2, hk⟩ := Option.bind_eq_some_iff.1 hk
      obtain ⟨r3, e3, hk⟩ := Option.bind_eq_some_iff.1 hk
      have hRI : RI (fun _ => True) w .int m xs := hM.step (fun b o v _ hv => ⟨trivial, hv⟩)
      have c1 := hB.h1.cell
      have c3 := hB.h3.cell
      have c4 := hB.h4.cell
      have c5 := hB.h5.cell
      have c2 := fun (o : Nat) => cell_of hB.h2 o
      obtain ⟨v2, x2⟩ := r2
      obtain ⟨slot, g3, x3⟩ := r3
      have key : ∀ (E : Int) (w1 w2 : World), w1.heap.size = w1.heap.size → True := fun _ _ _ _ => trivial
      cases hwf : decide ((Lit.int .i64 slot).wf = true) && decide (met.length < 1000000) with
      | false => rw [hwf] at hk; cases hk
      | true =>
      rw [hwf] at hk
      simp only [cond_true] at hk
      simp only [Bool.and_eq_true, decide_eq_true_eq] at hwf
      obtain ⟨hwf, hml⟩ := hwf
      by_cases hx : x2 = 0
      · subst hx
        have hk : (bif met.contains slot then some ([], (6 : Int)) else bif decide (out.length + 1 ≤ 1000000) then chain_Follow_K k c xs which next v2 (slot :: met) (out ++ [ref]) else none) = some r := hk
        cases hcont : met.contains slot with
        | false =>
          rw [hcont] at hk
          simp only [cond_false] at hk
          cases hol : decide (out.length + 1 ≤ 1000000) with
          | false => rw [hol] at hk; cases hk
          | true =>
          rw [hol] at hk
          simp only [cond_true] at hk
          have hol := of_decide_eq_true hol
          gi_wp2_with (first
            | (gi_at_call 12; refine (((hF.out ▸ callsIn_wide.2 (call_Field hRI c which ref next e2)) : CallsIn F (n - 1) Try.prog 12 _ _ _)).mono ?_; rintro e w1 ⟨rfl, hbel1⟩)
            | (gi_at_call 35; refine (((hF.out ▸ callsIn_wide.2 (call_Unpack ref e3)) : CallsIn F (n - 1) Try.prog 35 _ _ _)).mono ?_; rintro e w2 ⟨rfl, hbel2⟩
               have hk12 : Keep (fun _ => True) w w2 := (Keep.of_below hbel1).trans (Keep.of_below hbel2)
               have hmet2 := hmet.kept hk12 trivial
               have hlook := hmet2.look hwf
               rw [hcont] at hlook
               obtain ⟨D, hown, hmap, hat⟩ := hmet2)
            | (gi_at_mapUpdate; refine wpListIn_mapUpdate_own _ rfl _ _ _ 56 rfl 3 4 (Maps.int_keyed Try.underlying3) Try.underlying56 _ W.heap.size met.length _ rfl hown (Nat.lt_trans hml (by decide)) _ _ _ rfl rfl (Maps.keyOf_int_mk Try.underlying3 hwf) _ [] (plainElem_bool Try.underlying4 true) ?_
               intro w3 hown3 hgrow3
               have hk3 : Keep (· ≠ W.heap.size) w w3 := (hk12.less (fun _ _ => trivial)).trans (Keep.of_grown hgrow3 (by simp))
               obtain ⟨fn, tmps, assign, body, hy, hR⟩ := hY out ref 0 w3 (Nat.lt_of_lt_of_le hlt hk3.size) (hJ _ _ _ hJs hk3) (fun _ => by first | exact hol | omega)))
          refine hR.mono ?_
          rintro e W4 (⟨-, rfl, hJ4, hk4⟩ | ⟨h0, _⟩)
          · gi_wp2
            refine ⟨v2, slot :: met, out ++ [ref], (hB.kept hk3 (by omega) (by omega) (by omega) (by omega) (by omega)).kept hk4 (by simp) (by simp) (by simp) (by simp) (by simp),
              RI_keep (RI_keep hM hk3 (fun _ _ => by omega)) hk4 (fun _ h => .inl h), (Met.put hmap hat hown3).kept hk4 (by simp), hJ4, Nat.lt_of_lt_of_le hlt (Nat.le_trans hk3.size hk4.size), hk, _, _, _, _, _, _, _, _, _, _, _, _, _, _, _, _, _, _, _, _, _, _, _, _, _, _, _, _, _, _, _, _, _, _, _, _, _, _, _, _, _, _, _, rfl⟩
          · exact absurd rfl h0
        | true =>
          rw [hcont] at hk
          have hk := Option.some.inj (show some (([] : List Int), (6 : Int)) = some r from hk)
          subst hk
          gi_wp2_with (first
            | (gi_at_call 12; refine (((hF.out ▸ callsIn_wide.2 (call_Field hRI c which ref next e2)) : CallsIn F (n - 1) Try.prog 12 _ _ _)).mono ?_; rintro e w1 ⟨rfl, hbel1⟩)
            | (gi_at_call 35; refine (((hF.out ▸ callsIn_wide.2 (call_Unpack ref e3)) : CallsIn F (n - 1) Try.prog 35 _ _ _)).mono ?_; rintro e w2 ⟨rfl, hbel2⟩
               have hk12 : Keep (fun _ => True) w w2 := (Keep.of_below hbel1).trans (Keep.of_below hbel2)
               have hmet2 := hmet.kept hk12 trivial
               have hlook := hmet2.look hwf
               rw [hcont] at hlook
               obtain ⟨D, hown, hmap, hat⟩ := hmet2)
            | (gi_at_mapUpdate; refine wpListIn_mapUpdate_own _ rfl _ _ _ 56 rfl 3 4 (Maps.int_keyed Try.underlying3) Try.underlying56 _ W.heap.size met.length _ rfl hown (Nat.lt_trans hml (by decide)) _ _ _ rfl rfl (Maps.keyOf_int_mk Try.underlying3 hwf) _ [] (plainElem_bool Try.underlying4 true) ?_
               intro w3 hown3 hgrow3
               have hk3 : Keep (· ≠ W.heap.size) w w3 := (hk12.less (fun _ _ => trivial)).trans (Keep.of_grown hgrow3 (by simp))
               obtain ⟨fn, tmps, assign, body, hy, hR⟩ := hY out ref 6 w3 (Nat.lt_of_lt_of_le hlt hk3.size) (hJ _ _ _ hJs hk3) (fun h => absurd h (by decide))))
          refine hR.mono ?_
          rintro e W4 (⟨h0, _⟩ | ⟨-, rfl, hJ4⟩)
          · exact absurd h0 (by decide)
          · gi_wp2
            refine bodyPost_ret (results_none rfl _ _ _) rfl ?_
            exact ⟨⟨_, rfl⟩, by simpa using hJ4⟩
      · have hk : (bif x2 != 0 then some (([] : List Int), x2) else bif met.contains slot then some ([], (6 : Int)) else bif decide (out.length + 1 ≤ 1000000) then chain_Follow_K k c xs which next v2 (slot :: met) (out ++ [ref]) else none) = some r := hk
        rw [show (x2 != 0) = true by simpa using hx] at hk
        have hk := Option.some.inj (show some (([] : List Int), x2) = some r from hk)
        subst hk
        gi_wp2_with (first
          | (gi_at_call 12; refine (((hF.out ▸ callsIn_wide.2 (call_Field hRI c which ref next e2)) : CallsIn F (n - 1) Try.prog 12 _ _ _)).mono ?_; rintro e w1 ⟨rfl, hbel1⟩)
          | (gi_at_call 35; refine (((hF.out ▸ callsIn_wide.2 (call_Unpack ref e3)) : CallsIn F (n - 1) Try.prog 35 _ _ _)).mono ?_; rintro e w2 ⟨rfl, hbel2⟩
             have hk12 : Keep (fun _ => True) w w2 := (Keep.of_below hbel1).trans (Keep.of_below hbel2)
             have hmet2 := hmet.kept hk12 trivial
             have hlook := hmet2.look hwf
             obtain ⟨D, hown, hmap, hat⟩ := hmet2)
          | (gi_at_mapUpdate; refine wpListIn_mapUpdate_own _ rfl _ _ _ 56 rfl 3 4 (Maps.int_keyed Try.underlying3) Try.underlying56 _ W.heap.size met.length _ rfl hown (Nat.lt_trans hml (by decide)) _ _ _ rfl rfl (Maps.keyOf_int_mk Try.underlying3 hwf) _ [] (plainElem_bool Try.underlying4 true) ?_
             intro w3 hown3 hgrow3
             have hk3 : Keep (· ≠ W.heap.size) w w3 := (hk12.less (fun _ _ => trivial)).trans (Keep.of_grown hgrow3 (by simp))
             obtain ⟨fn, tmps, assign, body, hy, hR⟩ := hY out ref x2 w3 (Nat.lt_of_lt_of_le hlt hk3.size) (hJ _ _ _ hJs hk3) (fun h => absurd h hx)))
        refine hR.mono ?_
        rintro e W4 (⟨h0, _⟩ | ⟨-, rfl, hJ4⟩)
        · exact absurd h0 hx
        · gi_wp2
          refine bodyPost_ret (results_none rfl _ _ _) rfl ?_
          exact ⟨⟨_, rfl⟩, by simpa [hx] using hJ4⟩
  · exact ⟨head, [], [], hB1, RI_keep hM (Keep.alloc (K := fun _ => True) _ _) (fun _ _ => trivial), ⟨_, hm0, Maps.isMap_empty, fun _ => rfl⟩, hJ _ _ _ hJs (Keep.alloc _ _), by simp, hk, _, _, _, _, _, _, _, _, _, _, _, _, _, _, _, _, _, _, _, _, _, _, _, _, _, _, _, _, _, _, _, _, _, _, _, _, _, _, _, _, _, _, _, rfl⟩

end Go.Proofs.YthnbleblmpnfhaaFn
