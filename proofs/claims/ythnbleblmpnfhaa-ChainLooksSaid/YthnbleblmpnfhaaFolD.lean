/- 'chain.Follow', walked; no condition. -/
import Derived.Test.YthnbleblmpnfhaaFolB
import Derived.Test.YthnbleblmpnfhaaFolC
set_option linter.unusedVariables false
set_option linter.unusedSimpArgs false
namespace Go.Proofs.YthnbleblmpnfhaaFn
open Go Go.RowKit Go.Shelf Go.Proofs.YthnbleblmpnfhaaPx
attribute [local go_sem] Oper.semAt_some

def chain_Follow (x : Cfg × List Int × Int × Int × Int) : Option (List Int × Int) :=
  (place_Check x.1).bind fun r0 =>
  bif r0 != (0 : Int) then some ([], 1)
  else (place_Size x.1).bind fun r1 =>
    bif (x.2.1.length : Int) != r1 then some ([], 1)
    else chain_Follow_K 2000000 x.1 x.2.1 x.2.2.1 x.2.2.2.2 x.2.2.2.1 [] []

theorem res_one {S : Nat → Prop} {B : Nat} {w : World} {v : Value} {s : Sig} (r : Tup s.res) (hs : s.own = false) (a : Int) (he : encTup s.res r = [.one (.int .i64 a)]) (h : ResOk S B w (s.out 0 r) v) : v = .int .i64 a := by
  have ho : s.out 0 r = ([.one (.int .i64 a)], []) := by simp [Sig.out, hs, he]
  rw [ho] at h
  obtain ⟨ρ, _, _, _, hd⟩ := h
  exact hd

theorem call_Check {w : World} (c : Cfg) {r : Int} (h : place_Check c = some r) : Calls Try.prog 23 #[cfgV c] w fun e w' => e = .returned (.int .i64 r) ∧ Below w.heap.size w w' := by
  refine (place_Check_ok.1 (fun _ => True) w c r [cfgV c] h (fun _ _ => trivial) ⟨⟨_, rfl, rfl, rfl, rfl, rfl, rfl, trivial⟩, trivial⟩).mono ?_
  rintro e w' ⟨v, rfl, hb, hr⟩
  exact ⟨by rw [res_one (s := place_Check_S) r rfl r rfl (hr 0)], hb⟩

theorem call_Size {w : World} (c : Cfg) {r : Int} (h : place_Size c = some r) : Calls Try.prog 18 #[cfgV c] w fun e w' => e = .returned (.int .i64 r) ∧ Below w.heap.size w w' := by
  refine (place_Size_ok.1 (fun _ => True) w c r [cfgV c] h (fun _ _ => trivial) ⟨⟨_, rfl, rfl, rfl, rfl, rfl, rfl, trivial⟩, trivial⟩).mono ?_
  rintro e w' ⟨v, rfl, hb, hr⟩
  exact ⟨by rw [res_one (s := place_Size_S) r rfl r rfl (hr 0)], hb⟩

theorem alloc5 (w : World) (o0 o1 o2 o3 o4 : Obj) : (((((w.alloc o0).alloc o1).alloc o2).alloc o3).alloc o4).heap[w.heap.size]? = some o0 ∧
    (((((w.alloc o0).alloc o1).alloc o2).alloc o3).alloc o4).heap[w.heap.size + 1]? = some o1 ∧
    (((((w.alloc o0).alloc o1).alloc o2).alloc o3).alloc o4).heap[w.heap.size + 1 + 1]? = some o2 ∧
    (((((w.alloc o0).alloc o1).alloc o2).alloc o3).alloc o4).heap[w.heap.size + 1 + 1 + 1]? = some o3 ∧
    (((((w.alloc o0).alloc o1).alloc o2).alloc o3).alloc o4).heap[w.heap.size + 1 + 1 + 1 + 1]? = some o4 :=
  ⟨((Below.heap_alloc ((((w.alloc o0).alloc o1).alloc o2).alloc o3) o4 _ (by simp; try omega)).trans ((Below.heap_alloc (((w.alloc o0).alloc o1).alloc o2) o3 _ (by simp; try omega)).trans ((Below.heap_alloc ((w.alloc o0).alloc o1) o2 _ (by simp; try omega)).trans ((Below.heap_alloc (w.alloc o0) o1 _ (by simp; try omega)).trans (World.alloc_heap_new w o0))))),
    ((Below.heap_alloc ((((w.alloc o0).alloc o1).alloc o2).alloc o3) o4 _ (by simp; try omega)).trans ((Below.heap_alloc (((w.alloc o0).alloc o1).alloc o2) o3 _ (by simp; try omega)).trans ((Below.heap_alloc ((w.alloc o0).alloc o1) o2 _ (by simp; try omega)).trans (by have := World.alloc_heap_new (w.alloc o0) o1; rwa [World.size_alloc] at this)))),
    ((Below.heap_alloc ((((w.alloc o0).alloc o1).alloc o2).alloc o3) o4 _ (by simp; try omega)).trans ((Below.heap_alloc (((w.alloc o0).alloc o1).alloc o2) o3 _ (by simp; try omega)).trans (by have := World.alloc_heap_new ((w.alloc o0).alloc o1) o2; rwa [World.size_alloc, World.size_alloc] at this))),
    ((Below.heap_alloc ((((w.alloc o0).alloc o1).alloc o2).alloc o3) o4 _ (by simp; try omega)).trans (by have := World.alloc_heap_new (((w.alloc o0).alloc o1).alloc o2) o3; rwa [World.size_alloc, World.size_alloc, World.size_alloc] at this)),
    (by have := World.alloc_heap_new ((((w.alloc o0).alloc o1).alloc o2).alloc o3) o4; rwa [World.size_alloc, World.size_alloc, World.size_alloc, World.size_alloc] at this)⟩

set_option maxHeartbeats 4000000 in
theorem along_in (F : Fence) (n : Nat) (h24 : F.fn 24) (hro : F.round = none) (c : Cfg) (mp : Option Addr) (mn mc : Nat) (which head next : Int) (w : World) :
    CallsIn F n Try.prog 24 #[cfgV c, .slice mp mn mc, .int .i64 which, .int .i64 head, .int .i64 next] w fun e w' =>
      e = .returned (.func (.func 34) #[] #[.pointer (some ⟨w.heap.size + 3, 0, none⟩), .pointer (some ⟨w.heap.size, 0, none⟩), .pointer (some ⟨w.heap.size + 1, 0, none⟩), .pointer (some ⟨w.heap.size + 2, 0, none⟩), .pointer (some ⟨w.heap.size + 4, 0, none⟩)]) ∧
      Below w.heap.size w w' ∧ w'.heap.size = w.heap.size + 5 ∧ Boxes w' (w.heap.size + 3) w.heap.size (w.heap.size + 1) (w.heap.size + 2) (w.heap.size + 4) head c (.slice mp mn mc) which next := by
  refine callsIn_of_wp Try.func24 rfl h24 ?_ hro
  simp only [Try.ntmps24, List.size_toArray, List.length_cons, List.length_nil, Nat.reduceAdd, Nat.reduceSub, Array.replicate_succ, Array.replicate_zero, List.push_toArray, List.append_toArray, List.nil_append, List.cons_append]
  gi_wp2
  go_ret
  refine ⟨rfl, ((((((Below.refl _ w).alloc (Nat.le_refl _) _).alloc ?_ _).alloc ?_ _).alloc ?_ _).alloc ?_ _), ?_, ?_⟩
  · simp
  · simp; omega
  · simp; omega
  · simp; omega
  · simp
  · obtain ⟨h0, h1, h2, h3, h4⟩ := alloc5 w _ _ _ _ _
    exact ⟨h3, h0, h1, h2, h4⟩


theorem alloc3 (w : World) (o0 o1 o2 : Obj) : (((w.alloc o0).alloc o1).alloc o2).heap[w.heap.size]? = some o0 ∧
    (((w.alloc o0).alloc o1).alloc o2).heap[w.heap.size + 1]? = some o1 ∧
    (((w.alloc o0).alloc o1).alloc o2).heap[w.heap.size + 1 + 1]? = some o2 :=
  ⟨((Below.heap_alloc ((w.alloc o0).alloc o1) o2 _ (by simp; try omega)).trans ((Below.heap_alloc (w.alloc o0) o1 _ (by simp; try omega)).trans (World.alloc_heap_new w o0))),
    ((Below.heap_alloc ((w.alloc o0).alloc o1) o2 _ (by simp; try omega)).trans (by have := World.alloc_heap_new (w.alloc o0) o1; rwa [World.size_alloc] at this)),
    (by have := World.alloc_heap_new ((w.alloc o0).alloc o1) o2; rwa [World.size_alloc, World.size_alloc] at this)⟩

theorem rget10 {tmps : Array Value} {w : World} {a : Nat} {x : Value} (h1 : tmps.getD 10 undef = .pointer (some ⟨a, 0, none⟩)) (hx : w.cell? ⟨a, 0, none⟩ = some x) : (rget tmps (.cell 10 24)).run Try.prog w = .ok x w := by
  show Sem.run Try.prog (do loadVar 24 (← asAddr (tmps.getD 10 undef))) w = _
  rw [h1]; simp [go_sem, hx]
theorem rget11 {tmps : Array Value} {w : World} {a : Nat} {x : Value} (h1 : tmps.getD 11 undef = .pointer (some ⟨a, 0, none⟩)) (hx : w.cell? ⟨a, 0, none⟩ = some x) : (rget tmps (.cell 11 27)).run Try.prog w = .ok x w := by
  show Sem.run Try.prog (do loadVar 27 (← asAddr (tmps.getD 11 undef))) w = _
  rw [h1]; simp [go_sem, hx]
theorem results10 {tmps : Array Value} {w : World} {a b : Nat} {x y : Value} (h1 : tmps.getD 10 undef = .pointer (some ⟨a, 0, none⟩)) (h2 : tmps.getD 11 undef = .pointer (some ⟨b, 0, none⟩))
    (hx : w.cell? ⟨a, 0, none⟩ = some x) (hy : w.cell? ⟨b, 0, none⟩ = some y) : (results Try.f10 tmps).run Try.prog w = .ok (.tuple #[x, y]) w :=
  results_gets (fn := Try.f10) (vs := [x, y]) (by decide) ⟨rget10 h1 hx, rget11 h2 hy, trivial⟩

theorem Below.keep {K : Nat → Prop} {a w w' : World} (h : Below a.heap.size a w) (k : Keep K w w') (hK : ∀ i, i < a.heap.size → K i) : Below a.heap.size a w' :=
  ⟨k.os.trans h.os, k.tape.trans h.tape, k.output.trans h.output, Nat.le_trans h.size k.size, fun i hi => (k.block i (hK i hi) (Nat.lt_of_lt_of_le hi h.size)).trans (h.block i hi)⟩

theorem ownsRow_keep {K : Nat → Prop} {w w' : World} {base : Nat} {e : TypeId} {size : Nat} {v : Value} {n : Nat} {xs : List Value} (h : w.ownsRow base e size v n xs) (k : Keep K w w') (hK : ∀ i, base ≤ i → K i) : w'.ownsRow base e size v n xs := by
  obtain ⟨h0, h1 | ⟨g, cap, cur, h1, h2, h3, h4⟩⟩ := h
  · exact ⟨h0, .inl h1⟩
  · exact ⟨h0, .inr ⟨g, cap, cur, h1, h2, (k.block g (hK g h2) (Array.getElem?_eq_some_iff.1 h3).1).trans h3, h4⟩⟩

theorem boxed_keep {K : Nat → Prop} {w w' : World} {B : Nat} {t : TypeId} {v : Value} (h : Boxed w B t v) (k : Keep K w w') (hK : K B) : Boxed w' B t v := (k.block B hK h.lt).trans h

theorem Keep.setCell {K : Nat → Prop} {w : World} {B : Nat} {v : Value} (hB : ¬ K B) : Keep K w (w.setCell ⟨B, 0, none⟩ v) :=
  ⟨rfl, rfl, rfl, by simp [World.setCell], fun k hk _ => Below.heap_setCell _ _ _ k (fun e => hB (by have e : k = B := e; rw [← e]; exact hk))⟩

theorem info3 : (Try.prog.info? 3).map (fun i => (i.zero, i.size, i.bytes)) = some (some (.int .i64 0), 1, 8) := by kernel_rfl

theorem Keep.of_growth {K : Nat → Prop} {W W' w5 : World} {base : Nat} {e : TypeId} {size n : Nat} {v : Value} {xs : List Value} (hrow : W.ownsRow base e size v n xs) (h : W'.grownBy w5 v.ownBlock) (hK : ∀ k, base ≤ k → ¬ K k) : Keep K W' w5 := by
  refine ⟨h.os, h.tape, h.output, h.size, fun k hk hl => h.block k hl fun e => ?_⟩
  obtain ⟨_, ⟨rfl, _⟩ | ⟨g, cap, cur, rfl, hg, _⟩⟩ := hrow
  · cases e
  · obtain rfl : k = g := by simpa [Value.ownBlock] using e
    exact hK k hg hk

theorem ownsRow_base {w : World} {base base' : Nat} {e : TypeId} {size : Nat} {v : Value} {n : Nat} {xs : List Value} (h : w.ownsRow base e size v n xs) (hb : base' ≤ base) : w.ownsRow base' e size v n xs := by
  obtain ⟨h0, h1 | ⟨g, cap, cur, h1, h2, h3⟩⟩ := h
  · exact ⟨h0, .inl h1⟩
  · exact ⟨h0, .inr ⟨g, cap, cur, h1, Nat.le_trans hb h2, h3⟩⟩

/-- The way out behind the loop. -/
theorem fin_loop {F : Fence} {n : Nat} {w W : World} {tmps : Array Value} {v : Value} {e : Int} {xs : List Int} {D base : Nat} (hb : Below w.heap.size w W) (y1 : Boxed W (w.heap.size + 1) 24 v) (y2 : Boxed W (w.heap.size + 1 + 1) 27 (.int .i64 e))
    (hK : W.heap[D]? = some (.deferred (some []))) (hD : w.heap.size + 3 ≤ D) (hrow : W.ownsRow base 3 1 v xs.length (xs.map (Value.int .i64))) (hbD : D < base)
    (h1 : tmps.getD 10 undef = .pointer (some ⟨w.heap.size + 1, 0, none⟩)) (h2 : tmps.getD 11 undef = .pointer (some ⟨w.heap.size + 1 + 1, 0, none⟩)) :
    bodyPostM F n Try.prog Try.f10 (fun en W' => ∃ v, en = .returned (.tuple #[v, .int .i64 e]) ∧ Below w.heap.size w W' ∧ W'.ownsRow w.heap.size 3 1 v xs.length (xs.map (Value.int .i64))) .ret { tmps := tmps, defers := [{ target := .collected D, args := #[] }] } W := by
  have hk : Keep (· ≠ D) W (W.putObj D (.deferred none)) := Keep.putObj (by simp)
  refine ⟨by simp, .inl ⟨_, _, rfl, run_takeDeferred hK, ?_⟩⟩
  exact ⟨_, results10 h1 h2 (boxed_keep y1 hk (by omega)).cell (boxed_keep y2 hk (by omega)).cell, v, rfl, Below.keep hb hk (fun i hi => by omega), ownsRow_base (ownsRow_keep hrow hk (fun i hi => by omega)) (by omega)⟩

/-- The way out with an error ahead of the loop. -/
theorem fin_err {F : Fence} {n : Nat} {w w1 : World} {tmps : Array Value} (hb : Below w.heap.size w w1) (q1 : Boxed w1 (w.heap.size + 1) 24 (.slice none 0 0)) (q2 : Boxed w1 (w.heap.size + 1 + 1) 27 (.int .i64 0))
    (h1 : tmps.getD 10 undef = .pointer (some ⟨w.heap.size + 1, 0, none⟩)) (h2 : tmps.getD 11 undef = .pointer (some ⟨w.heap.size + 1 + 1, 0, none⟩)) :
    bodyPostM F n Try.prog Try.f10 (fun en W' => ∃ v, en = .returned (.tuple #[v, .int .i64 1]) ∧ Below w.heap.size w W' ∧ W'.ownsRow w.heap.size 3 1 v 0 []) .ret { tmps := tmps, defers := [] }
      ((w1.setCell ⟨w.heap.size + 1, 0, none⟩ (.slice none 0 0)).setCell ⟨w.heap.size + 1 + 1, 0, none⟩ (.int .i64 1)) := by
  have z1 := q1.set (.slice none 0 0)
  have z2 : Boxed (w1.setCell ⟨w.heap.size + 1, 0, none⟩ (.slice none 0 0)) (w.heap.size + 1 + 1) 27 (.int .i64 0) := boxed_keep (K := (· ≠ w.heap.size + 1)) q2 (Keep.setCell (by simp)) (by simp)
  have y2 := z2.set (.int .i64 1)
  have y1 : Boxed ((w1.setCell ⟨w.heap.size + 1, 0, none⟩ (.slice none 0 0)).setCell ⟨w.heap.size + 1 + 1, 0, none⟩ (.int .i64 1)) (w.heap.size + 1) 24 (.slice none 0 0) := boxed_keep (K := (· ≠ w.heap.size + 1 + 1)) z1 (Keep.setCell (by simp)) (by simp)
  exact ⟨_, results10 h1 h2 y1.cell y2.cell, _, rfl, (hb.setCell (p := ⟨_, 0, none⟩) (by simp) _).setCell (p := ⟨_, 0, none⟩) (by simp; omega) _, World.ownsRow_nil _ _ _ _⟩

set_option maxRecDepth 100000 in
set_option maxHeartbeats 4000000 in
theorem follow_in (F : Fence) (hF : Hid (F = Fence.wide)) (n : Nat) (hn : 4 ≤ n) (h10 : F.fn 10) (h18 : F.fn 18) (h23 : F.fn 23) (h24 : F.fn 24) (h34 : F.fn 34) (h12 : F.fn 12) (h35 : F.fn 35) (hro : F.round = none)
    (c : Cfg) (mp : Option Addr) (mc : Nat) (xs : List Int) (which head next : Int) (w : World) (hM : RI (fun _ => True) w .int (.slice mp xs.length mc) xs) (r : List Int × Int) (hr : chain_Follow (c, xs, which, head, next) = some r) :
    CallsIn F n Try.prog 10 #[cfgV c, .slice mp xs.length mc, .int .i64 which, .int .i64 head, .int .i64 next] w fun en W' => ∃ v, en = .returned (.tuple #[v, .int .i64 r.2]) ∧ Below w.heap.size w W' ∧ W'.ownsRow w.heap.size 3 1 v r.1.length (r.1.map (Value.int .i64)) := by
  have h1 : 1 ≤ n := by omega
  obtain ⟨i0, hi, hz0, hz1, hz2⟩ := info_parts info3
  refine callsIn_of_wp_marks Try.func10 rfl h10 ?_ hro
  simp only [Try.ntmps10, List.size_toArray, List.length_cons, List.length_nil, Nat.reduceAdd, Nat.reduceSub, Array.replicate_succ, Array.replicate_zero, List.push_toArray, List.append_toArray, List.nil_append, List.cons_append]
  unfold chain_Follow at hr
  obtain ⟨r0, e0, hr2⟩ := Option.bind_eq_some_iff.1 hr
  clear hr
  dsimp only at e0 hr2
  obtain ⟨a0, a1, a2⟩ := alloc3 w (.cells #[.int .i64 c.1, .int .i64 c.2.1, .int .i64 c.2.2.1, .int .i64 c.2.2.2.1, .int .i64 c.2.2.2.2] 23) (.cells #[.slice none 0 0] 24) (.cells #[.int .i64 0] 27)
  have b0 : Below w.heap.size w (((w.alloc (.cells #[.int .i64 c.1, .int .i64 c.2.1, .int .i64 c.2.2.1, .int .i64 c.2.2.2.1, .int .i64 c.2.2.2.2] 23)).alloc (.cells #[.slice none 0 0] 24)).alloc (.cells #[.int .i64 0] 27)) :=
    (((Below.refl _ w).alloc (Nat.le_refl _) _).alloc (by simp) _).alloc (by simp; omega) _
  obtain ⟨W0, hW0⟩ : ∃ W0, (((w.alloc (.cells #[.int .i64 c.1, .int .i64 c.2.1, .int .i64 c.2.2.1, .int .i64 c.2.2.2.1, .int .i64 c.2.2.2.2] 23)).alloc (.cells #[.slice none 0 0] 24)).alloc (.cells #[.int .i64 0] 27)) = W0 := ⟨_, rfl⟩
  have hs0 : W0.heap.size = w.heap.size + 3 := by rw [← hW0]; simp
  rw [hW0] at a0 a1 a2 b0
  have d00 := fun o => cell_of a0 o
  by_cases hr0 : r0 = 0
  · subst hr0
    have hr2 : ((place_Size c).bind fun r1 => bif (xs.length : Int) != r1 then some (([] : List Int), (1 : Int)) else chain_Follow_K 2000000 c xs which next head [] []) = some r := hr2
    obtain ⟨r1, e1, hr3⟩ := Option.bind_eq_some_iff.1 hr2
    clear hr2
    by_cases hlen : (xs.length : Int) = r1
    · rw [show ((xs.length : Int) != r1) = false by simpa using hlen] at hr3
      have hr : chain_Follow_K 2000000 c xs which next head [] [] = some r := hr3
      clear hr3
      gi_wp2_with (first
        | (gi_at_call 23; refine (((hF.out ▸ callsIn_wide.2 (call_Check c e0)) : CallsIn F (n - 1) Try.prog 23 _ _ _)).mono ?_; rintro e w1 ⟨rfl, hbel1⟩
           rw [hs0] at hbel1
           have q0 := (hbel1.block w.heap.size (by omega)).trans a0
           have q1 : Boxed w1 (w.heap.size + 1) 24 (.slice none 0 0) := (hbel1.block _ (by omega)).trans a1
           have q2 : Boxed w1 (w.heap.size + 1 + 1) 27 (.int .i64 0) := (hbel1.block _ (by omega)).trans a2
           have d0 := fun o => cell_of q0 o)
        | (gi_at_call 18; refine (((hF.out ▸ callsIn_wide.2 (call_Size c e1)) : CallsIn F (n - 1) Try.prog 18 _ _ _)).mono ?_; rintro e w2 ⟨rfl, hbel2⟩
           have p0 := (hbel2.block w.heap.size (Array.getElem?_eq_some_iff.1 q0).1).trans q0
           have p1 : Boxed w2 (w.heap.size + 1) 24 (.slice none 0 0) := (hbel2.block _ q1.lt).trans q1
           have p2 : Boxed w2 (w.heap.size + 1 + 1) 27 (.int .i64 0) := (hbel2.block _ q2.lt).trans q2
           have d1 := fun o => cell_of ((Below.heap_alloc w2 (.cells #[.slice none 0 0] 24) w.heap.size (Array.getElem?_eq_some_iff.1 p0).1).trans p0) o)
        | (gi_at_call 24; refine (along_in F (n - 1) h24 hro c mp xs.length mc which head next _).mono ?_; rintro e w4 ⟨rfl, hbel4, hs4o, hBx⟩))
      have hs4 : w4.heap.size = w2.heap.size + 1 + 5 := by simpa using hs4o
      have HS4 : Hid (w4.heap.size = w2.heap.size + 1 + 5) := hs4
      have hl0 : w.heap.size + 3 ≤ w1.heap.size := Nat.le_trans (Nat.le_of_eq hs0.symm) hbel1.size
      have hl1 := hbel2.size
      have bw2 : Below w.heap.size w w2 := (b0.trans (hbel1.mono (by omega))).trans (hbel2.mono (by omega))
      have bw4 : Below w.heap.size w w4 := (bw2.alloc (by omega) _).trans (hbel4.mono (by simp; omega))
      have k24 : Keep (· < w2.heap.size) w2 w4 := (Keep.alloc w2 _).trans (Keep.of_below hbel4)
      have o4 : Boxed w4 w2.heap.size 24 (.slice none 0 0) := (hbel4.block _ (by simp)).trans (World.alloc_heap_new w2 _)
      have z1 := boxed_keep p1 k24 p1.lt
      have z2 := boxed_keep p2 k24 p2.lt
      have hR4 : RI (· < w.heap.size) w4 .int (.slice mp xs.length mc) xs := Go.Proofs.YthnbleblmpnfhaaPx.RI.step (fun b o v _ hv => ⟨cell_lt hv, by rw [cell_eq (bw4.block b (cell_lt hv))]; exact hv⟩) hM
      have hKi : ∀ k, (k < w.heap.size ∨ k = w2.heap.size + 1 + 3 ∨ k = w2.heap.size + 1 ∨ k = w2.heap.size + 1 + 1 ∨ k = w2.heap.size + 1 + 2 ∨ k = w2.heap.size + 1 + 4 ∨ k = w4.heap.size + 2) → k ≠ w4.heap.size + 1 ∧ (k < w4.heap.size + 3 ∧ k ≠ w2.heap.size ∧ k ≠ w.heap.size + 1 ∧ k ≠ w.heap.size + 1 + 1) := fun k h => by omega
      have hKb : (w4.heap.size < w4.heap.size + 3 ∧ w4.heap.size ≠ w2.heap.size ∧ w4.heap.size ≠ w.heap.size + 1 ∧ w4.heap.size ≠ w.heap.size + 1 + 1) ∧ (w4.heap.size + 1 < w4.heap.size + 3 ∧ w4.heap.size + 1 ≠ w2.heap.size ∧ w4.heap.size + 1 ≠ w.heap.size + 1 ∧ w4.heap.size + 1 ≠ w.heap.size + 1 + 1) := by omega
      clear hs4 hs4o
      refine range_law hro h1 (gf := 34) (lb := #[.pointer (some ⟨w2.heap.size + 1 + 3, 0, none⟩), .pointer (some ⟨w2.heap.size + 1, 0, none⟩), .pointer (some ⟨w2.heap.size + 1 + 1, 0, none⟩), .pointer (some ⟨w2.heap.size + 1 + 2, 0, none⟩), .pointer (some ⟨w2.heap.size + 1 + 4, 0, none⟩)]) rfl h34 (enters_of Try.func34 (by kernel_rfl) rfl)
        (fun k => k < w4.heap.size + 3 ∧ k ≠ w2.heap.size ∧ k ≠ w.heap.size + 1 ∧ k ≠ w.heap.size + 1 + 1)
        (fun k => k < w.heap.size ∨ k = w2.heap.size + 1 + 3 ∨ k = w2.heap.size + 1 ∨ k = w2.heap.size + 1 + 1 ∨ k = w2.heap.size + 1 + 2 ∨ k = w2.heap.size + 1 + 4 ∨ k = w4.heap.size + 2)
        hKi hKb rfl
        (fun out W => (∃ v, Boxed W w2.heap.size 24 v ∧ W.ownsRow (w4.heap.size + 3) 3 1 v out.length (out.map (Value.int .i64))) ∧ Boxed W (w.heap.size + 1) 24 (.slice none 0 0) ∧ Boxed W (w.heap.size + 1 + 1) 27 (.int .i64 0) ∧ Below w.heap.size w W)
        (fun e W => Boxed W (w.heap.size + 1) 24 (.slice none 0 0) ∧ Boxed W (w.heap.size + 1 + 1) 27 (.int .i64 e) ∧ Below w.heap.size w W)
        ?hI ?hIx ⟨⟨_, o4, World.ownsRow_nil _ _ _ _⟩, z1, z2, bw4⟩
        (fun ref e => { tmps := #[cfgV c, .slice mp xs.length mc, .int .i64 which, .int .i64 head, .int .i64 next, .pointer (some ⟨w.heap.size, 0, none⟩), undef, undef, undef, undef, .pointer (some ⟨w.heap.size + 1, 0, none⟩), .pointer (some ⟨w.heap.size + 1 + 1, 0, none⟩), .pointer (some ⟨w2.heap.size, 0, none⟩), .int .i64 ref, .int .i64 e,
          cfgV c, .int .i64 0, .bool false, .bool false, .slice mp xs.length mc, .int .i64 r1, cfgV c, .int .i64 r1, .bool false, .bool false, cfgV c, .slice mp xs.length mc, .int .i64 which, .int .i64 head, .int .i64 next,
          .func (.func 34) #[] #[.pointer (some ⟨w2.heap.size + 1 + 3, 0, none⟩), .pointer (some ⟨w2.heap.size + 1, 0, none⟩), .pointer (some ⟨w2.heap.size + 1 + 1, 0, none⟩), .pointer (some ⟨w2.heap.size + 1 + 2, 0, none⟩), .pointer (some ⟨w2.heap.size + 1 + 4, 0, none⟩)], .int .i64 ref, .int .i64 e, undef, undef, undef, undef, undef, undef, undef, undef], defers := [] })
        ?assign ?body r ?hit ?hdone ?hstop
      case hI =>
        have hs4 := HS4.out
        rintro out W W' ⟨⟨v, hv, hrow⟩, y1, y2, hb⟩ hk
        exact ⟨⟨v, boxed_keep hv hk (by omega), ownsRow_keep hrow hk (fun i hi => by omega)⟩, boxed_keep y1 hk (by omega), boxed_keep y2 hk (by omega), Below.keep hb hk (fun i hi => by omega)⟩
      case hIx =>
        have hs4 := HS4.out
        rintro e W W' ⟨y1, y2, hb⟩ hk
        exact ⟨boxed_keep y1 hk (by omega), boxed_keep y2 hk (by omega), Below.keep hb hk (fun i hi => by omega)⟩
      case assign =>
        intro ref e W K hK
        gi_wp2
        exact hK
      case body =>
        rintro out ref e W ⟨⟨v, hv, hrow⟩, y1, y2, hb⟩ hlt hlen'
        by_cases he : e = 0
        · subst he
          have hle := hlen' rfl
          have hc := hv.cell
          gi_wp2_with (gi_at_builtin; refine wpListIn_append_own _ rfl _ _ 24 rfl (w4.heap.size + 3) 3 i0 (.int .i64 0) 1 8 Try.underlying24 hi hz0 hz1 hz2 rfl (by decide) _ _ _ rfl (hrow.alloc _) ⟨W.heap.size, 0, none⟩ 1 1 [.int .i64 ref] rfl rfl (cell_one_new _ _ _) (by simp [Value.oneCell']) (Nat.le_trans hle (by decide)) (by omega) (by simp; omega) ?_
                       intro v' w5 hown' hgrow _
                       obtain ⟨g', cap', rfl⟩ := ownsRow_succ hown'
                       have hv1 : Boxed w5 w2.heap.size 24 v := (hv.alloc _).kept hgrow (hv.not_row (by decide) hrow)
                       have hc1 := hv1.cell
                       have hf1 := hv1.frozen)
          have hs4 := HS4.out
          have hk5 : Keep (fun k => k < w4.heap.size + 3 ∧ k ≠ w2.heap.size) W (w5.setCell ⟨w2.heap.size, 0, none⟩ (.slice (some ⟨g', 0, none⟩) (out.length + 1) cap')) :=
            ((Keep.alloc W _).trans (Keep.of_growth hrow hgrow (fun k hk h => by omega))).trans (Keep.setCell (by simp))
          exact ⟨rfl, ⟨⟨_, hv1.set _, by simpa using ownsRow_keep hown' (Keep.setCell (K := (· ≠ w2.heap.size)) (by simp)) (fun i hi => by omega)⟩, boxed_keep y1 hk5 (by omega), boxed_keep y2 hk5 (by omega), Below.keep hb hk5 (fun i hi => by omega)⟩, hk5.less fun k hk => ⟨hk.1, hk.2.1⟩⟩
        · have g1 := y1.cell
          have g2 := y1.frozen
          have g3 := y2.cell
          have g4 := y2.frozen
          gi_wp2
          have hs4 := HS4.out
          have hk5 : Keep (fun k => k ≠ w.heap.size + 1 ∧ k ≠ w.heap.size + 1 + 1) W ((W.setCell ⟨w.heap.size + 1, 0, none⟩ (.slice none 0 0)).setCell ⟨w.heap.size + 1 + 1, 0, none⟩ (.int .i64 e)) := (Keep.setCell (by simp)).trans (Keep.setCell (by simp))
          exact ⟨he, ⟨boxed_keep (y1.set _) (Keep.setCell (K := (· ≠ w.heap.size + 1 + 1)) (by simp)) (by simp), (boxed_keep y2 (Keep.setCell (K := (· ≠ w.heap.size + 1)) (by simp)) (by simp)).set _, Below.keep hb hk5 (fun i hi => by omega)⟩, hk5.less fun k hk => hk.2.2⟩
      case hit =>
        have hs4 := HS4.out
        intro J Jx W hW hbW hJ hY hJ0
        have hk : Keep (· < w4.heap.size) w4 W := Keep.less (Keep.of_below hbW) fun _ h => h
        refine it_in F hF (n - 1) (by omega) h34 h12 h35 hro w.heap.size (w2.heap.size + 1 + 3) (w2.heap.size + 1) (w2.heap.size + 1 + 1) (w2.heap.size + 1 + 2) (w2.heap.size + 1 + 4) (w4.heap.size + 1) head c (.slice mp xs.length mc) xs which next W
          (by omega) (by omega) (by omega) (by omega) (by omega) (by omega) J Jx hJ (fun out ref e W1 a b d => ?_) r 2000000 ?_ ?_ hJ0 hr
        · have := hY out ref e W1 a b d
          rw [hW]; exact this
        · have hBx' : Boxes w4 (w2.heap.size + 1 + 3) (w2.heap.size + 1) (w2.heap.size + 1 + 1) (w2.heap.size + 1 + 2) (w2.heap.size + 1 + 4) head c (.slice mp xs.length mc) which next := by simpa using hBx
          exact hBx'.kept hk (by omega) (by omega) (by omega) (by omega) (by omega)
        · exact RI_keep hR4 hk (fun k hk => by omega)
      case hdone =>
        rintro W hr2 ⟨⟨v, hv, hrow⟩, y1, y2, hb⟩ hK
        have g0 := hv.cell
        have g1 := y1.cell
        have g2 := y1.frozen
        have g3 := y2.cell
        have g4 := y2.frozen
        rcases id hrow.2 with ⟨rfl, _⟩ | ⟨g, cap, cur, rfl, _⟩
        · gi_wp2
          have hs4 := HS4.out
          have hk5 : Keep (fun k => k ≠ w.heap.size + 1 ∧ k ≠ w.heap.size + 1 + 1) W ((W.setCell ⟨w.heap.size + 1, 0, none⟩ (.slice none 0 0)).setCell ⟨w.heap.size + 1 + 1, 0, none⟩ (.int .i64 0)) := (Keep.setCell (by simp)).trans (Keep.setCell (by simp))
          rw [hr2]
          exact fin_loop (Below.keep hb hk5 (fun i hi => by omega)) (boxed_keep (y1.set _) (Keep.setCell (K := (· ≠ w.heap.size + 1 + 1)) (by simp)) (by simp)) ((boxed_keep y2 (Keep.setCell (K := (· ≠ w.heap.size + 1)) (by simp)) (by simp)).set _)
            ((hk5.block _ (by omega) (Array.getElem?_eq_some_iff.1 hK).1).trans hK) (by omega) (ownsRow_keep hrow hk5 (fun i hi => by omega)) (by omega) rfl rfl
        · gi_wp2
          have hs4 := HS4.out
          have hk5 : Keep (fun k => k ≠ w.heap.size + 1 ∧ k ≠ w.heap.size + 1 + 1) W ((W.setCell ⟨w.heap.size + 1, 0, none⟩ (.slice (some ⟨g, 0, none⟩) r.1.length cap)).setCell ⟨w.heap.size + 1 + 1, 0, none⟩ (.int .i64 0)) := (Keep.setCell (by simp)).trans (Keep.setCell (by simp))
          rw [hr2]
          exact fin_loop (Below.keep hb hk5 (fun i hi => by omega)) (boxed_keep (y1.set _) (Keep.setCell (K := (· ≠ w.heap.size + 1 + 1)) (by simp)) (by simp)) ((boxed_keep y2 (Keep.setCell (K := (· ≠ w.heap.size + 1)) (by simp)) (by simp)).set _)
            ((hk5.block _ (by omega) (Array.getElem?_eq_some_iff.1 hK).1).trans hK) (by omega) (ownsRow_keep hrow hk5 (fun i hi => by omega)) (by omega) rfl rfl
      case hstop =>
        rintro W hr2 hnil ⟨y1, y2, hb⟩ hK
        gi_wp2
        have hs4 := HS4.out
        exact fin_loop hb y1 y2 hK (by omega) (base := w4.heap.size + 3) (by rw [hnil]; exact World.ownsRow_nil _ _ _ _) (by omega) rfl rfl
    · rw [show ((xs.length : Int) != r1) = true by simpa using hlen] at hr3
      have hr := Option.some.inj (show some (([] : List Int), (1 : Int)) = some r from hr3)
      clear hr3
      subst hr
      gi_wp2_with (first
        | (gi_at_call 23; refine (((hF.out ▸ callsIn_wide.2 (call_Check c e0)) : CallsIn F (n - 1) Try.prog 23 _ _ _)).mono ?_; rintro e w1 ⟨rfl, hbel1⟩
           rw [hs0] at hbel1
           have q0 := (hbel1.block w.heap.size (by omega)).trans a0
           have q1 : Boxed w1 (w.heap.size + 1) 24 (.slice none 0 0) := (hbel1.block _ (by omega)).trans a1
           have q2 : Boxed w1 (w.heap.size + 1 + 1) 27 (.int .i64 0) := (hbel1.block _ (by omega)).trans a2
           have d0 := fun o => cell_of q0 o)
        | (gi_at_call 18; refine (((hF.out ▸ callsIn_wide.2 (call_Size c e1)) : CallsIn F (n - 1) Try.prog 18 _ _ _)).mono ?_; rintro e w2 ⟨rfl, hbel2⟩
           have p0 := (hbel2.block w.heap.size (Array.getElem?_eq_some_iff.1 q0).1).trans q0
           have p1 : Boxed w2 (w.heap.size + 1) 24 (.slice none 0 0) := (hbel2.block _ q1.lt).trans q1
           have p2 : Boxed w2 (w.heap.size + 1 + 1) 27 (.int .i64 0) := (hbel2.block _ q2.lt).trans q2
           have d1 := p1.cell
           have f1 := p1.frozen
           have d2 := p2.cell
           have f2 := p2.frozen))
      exact fin_err ((b0.trans (hbel1.mono (by omega))).trans (hbel2.mono (by have := hbel1.size; omega))) p1 p2 rfl rfl
  · rw [show (r0 != 0) = true by simpa using hr0] at hr2
    have hr := Option.some.inj (show some (([] : List Int), (1 : Int)) = some r from hr2)
    clear hr2
    subst hr
    gi_wp2_with (first
      | (gi_at_call 23; refine (((hF.out ▸ callsIn_wide.2 (call_Check c e0)) : CallsIn F (n - 1) Try.prog 23 _ _ _)).mono ?_; rintro e w1 ⟨rfl, hbel1⟩
         rw [hs0] at hbel1
         have q0 := (hbel1.block w.heap.size (by omega)).trans a0
         have q1 : Boxed w1 (w.heap.size + 1) 24 (.slice none 0 0) := (hbel1.block _ (by omega)).trans a1
         have q2 : Boxed w1 (w.heap.size + 1 + 1) 27 (.int .i64 0) := (hbel1.block _ (by omega)).trans a2
         have d1 := q1.cell
         have f1 := q1.frozen
         have d2 := q2.cell
         have f2 := q2.frozen))
    exact fin_err ((b0.trans (hbel1.mono (by omega)))) q1 q2 rfl rfl

def chain_Follow_S : Sig := ⟨[⟨true, (.pair .int (.pair .int (.pair .int (.pair .int .int))))⟩, ⟨false, (.sl .int)⟩, ⟨false, .int⟩, ⟨false, .int⟩, ⟨false, .int⟩], [⟨false, (.sl .int)⟩, ⟨false, .int⟩], true, chain_Follow⟩

theorem row_resOk {S : Nat → Prop} {B : Nat} {w : World} {v : Value} {xs : List Int} {e : Int} (h : w.ownsRow B 3 1 v xs.length (xs.map (Value.int .i64))) (base : Nat) :
    ResOk S B w ([.one (.row base), .one (.int .i64 e)], [(base, .row .int xs)]) (.tuple #[v, .int .i64 e]) := by
  have hlk : ∀ i blk, lkF [(base, Blk.row .int xs)] i = some blk → i = base ∧ blk = .row .int xs := by
    intro i blk hb
    by_cases hi : i = base
    · subst hi
      simp [lkF, applyW, upd] at hb
      exact ⟨rfl, hb.symm⟩
    · simp [lkF, applyW, upd, hi] at hb
  have hone : v.oneCell' = true := by
    obtain ⟨_, ⟨rfl, _⟩ | ⟨g, cap, cur, rfl, _⟩⟩ := h <;> rfl
  refine ⟨fun i => if i = base then some v else none, fun i blk hb => ?_, fun i j bi bj vi vj b hne hi hj => ?_, fun i u hu => ?_, [v, .int .i64 e], rfl, (show (if base = base then some v else none) = some v by simp), rfl, trivial⟩
  · obtain ⟨rfl, rfl⟩ := hlk i blk hb
    refine ⟨v, by simp, ?_⟩
    obtain ⟨hl, ⟨rfl, h0⟩ | ⟨g, cap, cur, rfl, hg, hh, hc, _, hsz, ht⟩⟩ := h
    · exact .inl ⟨rfl, List.eq_nil_of_length_eq_zero h0⟩
    · refine .inr ⟨g, 0, cap, cur, 3, rfl, hg, hc, hh, by simp [Ty.size]; omega, fun i hi => ?_⟩
      show cur[0 + (i * 1 + 0)]? = some (.int .i64 xs[i])
      have h1 : (cur.toList.take (xs.length * 1))[i]? = some (.int .i64 xs[i]) := by rw [ht]; simp [hi]
      rw [List.getElem?_take] at h1
      simpa [hi] using h1
  · exact absurd ((hlk i bi hi).1.trans (hlk j bj hj).1.symm) hne
  · by_cases hi : i = base
    · subst hi
      obtain rfl : v = u := by simpa using hu
      exact ⟨hone, _, by simp [lkF, applyW, upd]; rfl⟩
    · simp [hi] at hu

theorem chain_Follow_ok : SigOk Try.prog 10 chain_Follow_S ∧ Bodied Try.prog 10 := by
  refine ⟨fun S w x r vs hfn hS hvs => ?_, bodied_of Try.func10 (by decide +kernel) (by decide +kernel)⟩
  obtain ⟨c, xs, which, head, next⟩ := x
  match vs, hvs with
  | [v0, v1, v2, v3, v4], ⟨⟨us, hv0, hd0⟩, h1, h2, h3, h4, _⟩ =>
    have h1 : RI S w .int v1 xs := h1
    obtain ⟨p, cc, rfl, _⟩ := RI.shape h1
    have e2 : v2 = .int .i64 which := h2
    have e3 : v3 = .int .i64 head := h3
    have e4 : v4 = .int .i64 next := h4
    subst e2 e3 e4
    match us, hd0 with
    | [u0, u1, u2, u3, u4], ⟨g0, g1, g2, g3, g4, _⟩ =>
      have g0 : u0 = .int .i64 c.1 := g0
      have g1 : u1 = .int .i64 c.2.1 := g1
      have g2 : u2 = .int .i64 c.2.2.1 := g2
      have g3 : u3 = .int .i64 c.2.2.2.1 := g3
      have g4 : u4 = .int .i64 c.2.2.2.2 := g4
      subst g0 g1 g2 g3 g4 hv0
      have hM : RI (fun _ => True) w .int (.slice p xs.length cc) xs := Go.Proofs.YthnbleblmpnfhaaPx.RI.step (fun b o v _ hv => ⟨trivial, hv⟩) h1
      refine ((callsIn_wide (n := 4)).1 (follow_in Fence.wide (show Fence.wide = Fence.wide from rfl) 4 (Nat.le_refl _) trivial trivial trivial trivial trivial trivial trivial rfl c p cc xs which head next w hM r hfn)).mono ?_
      rintro e w' ⟨v, rfl, hb, hrow⟩
      refine ⟨_, rfl, hb, fun base => ?_⟩
      exact row_resOk hrow base

end Go.Proofs.YthnbleblmpnfhaaFn
