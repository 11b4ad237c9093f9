/- Five laws of pools; no condition. -/
import Derived.Test.YtcoiboghdmmdcaaPurePoolDoes
set_option linter.unusedVariables false
set_option linter.unusedSimpArgs false
namespace Go.Proofs.Ytcoiboghdmmdcaa.Pure
open Go Go.RowKit Go.Proofs.YtcoiboghdmmdcaaFn Go.Proofs.YtcoiboghdmmdcaaPx

theorem eta (q : Pool) : ((q.1, q.2.1, q.2.2.1, q.2.2.2) : Pool) = q := rfl
def Few (p : Pool) : Prop := p.1.length ≤ 200 ∧ p.2.1.length ≤ 200 ∧ p.2.2.1.length ≤ 200 ∧ p.2.2.2.length ≤ 200
instance (p : Pool) : Decidable (Few p) := by unfold Few; infer_instance
theorem few_eq' (p : Pool) : tendrilref05_Few p = some (decide (Few p)) := few_eq p

theorem small_new (n : Int) : small (newV n).1 := by
  unfold newV
  split
  · rename_i h; exact (okP_new n.toNat (by omega) (by omega)).small
  · exact small_noP

theorem PoolMakes (x : Int × Pool) (hx : InRT [⟨false, .int⟩, ⟨true, .pair (.sl .int) (.pair (.sl .int) (.pair (.sl .int) (.sl .int)))⟩] x) : tendrillaw05_PoolMakes x = some true := by
  obtain ⟨n, p⟩ := x
  unfold tendrillaw05_PoolMakes
  simp only [live_eq, Option.bind_some, Bool.not_true, cond_false, eta, few_eq']
  by_cases hf : Few p
  · have hF : p.2.2.2.length ≤ 1000 := by have := hf.2.2.2; omega
    simp only [hf, decide_true, Bool.not_true, cond_false, pnew_eq, rpnew_eq, pcount_eq p hF, rpcount_eq p hF, pcheck_eq p hF, rpcheck_eq p hF, Option.bind_some, eta, sameP_eq _ _ (small_new n), cond_true, beq_self_eq_true]
  · simp only [hf, decide_false, Bool.not_false, cond_true]

theorem retire_some {p : Pool} {r w : Int} (h : okP p) (hu : (unpackV r).2.2 = 0) (hs : (unpackV r).1 < (p.1.length : Int)) :
    retireV p r w = if holdsR p (unpackV r) then ((p.1, p.2.1.set (unpackV r).1.toNat 2, p.2.2.1.set (unpackV r).1.toNat w, p.2.2.2), 0) else (noP, 2) := if_pos ⟨h, hu, hs⟩
theorem retire_not {p : Pool} {r w : Int} (h : ¬ ((unpackV r).2.2 = 0 ∧ (unpackV r).1 < (p.1.length : Int))) : retireV p r w = (noP, 1) := if_neg fun q => h q.2

theorem PoolStale (x : Pool × Int × Int × Int) (hx : InRT [⟨true, .pair (.sl .int) (.pair (.sl .int) (.pair (.sl .int) (.sl .int)))⟩, ⟨false, .int⟩, ⟨false, .int⟩, ⟨false, .int⟩] x) : tendrillaw05_PoolStale x = some true := by
  obtain ⟨p, r, w, u⟩ := x
  have hr : -9223372036854775808 ≤ r ∧ r ≤ 9223372036854775807 := hx.2.1
  unfold tendrillaw05_PoolStale
  simp only [live_eq, Option.bind_some, Bool.not_true, cond_false, eta, few_eq']
  by_cases hf : Few p
  · have hF : p.2.2.2.length ≤ 1000 := by have := hf.2.2.2; omega
    simp only [hf, decide_true, Bool.not_true, cond_false, pcheck_eq p hF, unpack_eq r hr, pretire_eq p r w hF hr, Option.bind_some, eta, nec, eqc, dec]
    by_cases hk : okP p
    · rw [chk_pos hk, if_pos rfl]
      have hl := hk.lens
      by_cases hu : (unpackV r).2.2 = 0
      · rw [if_pos hu]
        obtain ⟨_, u1, u2, u3, u4⟩ := unpack_some (r := r) (s := (unpackV r).1) (g := (unpackV r).2.1) (Prod.ext rfl (Prod.ext rfl hu))
        by_cases hs : (unpackV r).1 < (p.1.length : Int)
        · rw [if_neg (by omega), if_pos u1, if_pos hs, retire_some hk hu hs]
          by_cases hh : holdsR p (unpackV r)
          · simp only [hh, if_true]
            have hh' := hh
            unfold holdsR at hh'
            have ha : okP (p.1, p.2.1.set (unpackV r).1.toNat 2, p.2.2.1.set (unpackV r).1.toNat w, p.2.2.2) := okP_retire w hk u1 hs hh
            generalize hA : ((p.1, p.2.1.set (unpackV r).1.toNat 2, p.2.2.1.set (unpackV r).1.toNat w, p.2.2.2) : Pool) = A at ha
            have hA1 : A.1.length = p.1.length := by rw [← hA]
            have hAS : A.2.1.getD (unpackV r).1.toNat 0 = 2 := by
              rw [← hA]
              show (p.2.1.set (unpackV r).1.toNat 2).getD (unpackV r).1.toNat 0 = 2
              rw [getD_set _ _ _ _ _ (by omega), if_pos rfl]
            have hb := okP_reclaim u ha
            have hB1 : (recFrom u A.1.length 0 A).1.length = p.1.length := by rw [(recFrom_len u A.1.length 0 A).1, hA1]
            have hBS : (recFrom u A.1.length 0 A).2.1.getD (unpackV r).1.toNat 0 ≠ 1 := by
              have hla := ha.lens
              obtain ⟨q1, q2⟩ := recFrom_in u A.1.length 0 (unpackV r).1.toNat A (by omega) (by omega) (by omega) hla.2.1 hla.2.2
              by_cases hc : recCond u (unpackV r).1.toNat A
              · rw [(q1 hc).2.1]; decide
              · rw [(q2 hc).2.1, hAS]; decide
            have eA : ((p.1, p.2.1.set (unpackV r).1.toNat 2, p.2.2.1.set (unpackV r).1.toNat w, p.2.2.2) : Pool) = A := hA
            have r1 : retireV A r w = (noP, 2) := by rw [retire_some ha hu (by rw [hA1]; exact hs), if_neg (fun (q : holdsR A (unpackV r)) => by have := q.1; omega)]
            have r2 : retireV (recFrom u A.1.length 0 A) r w = (noP, 2) := by rw [retire_some hb hu (by rw [hB1]; exact hs), if_neg (fun (q : holdsR _ (unpackV r)) => hBS q.1)]
            simp only [eA, preclaim_eq A u ha.small.2.2.2, reclaim_some u ha, pretire_eq A r w ha.small.2.2.2 hr, pretire_eq (recFrom u A.1.length 0 A) r w hb.small.2.2.2 hr, Option.bind_some, eta, r1, r2]
            have u5 : (unpackV r).1 < (p.2.1.length : Int) := by omega
            simp only [hh'.1, hh'.2, u1, u5, if_true]
            simp
          · simp only [hh, if_false]
            unfold holdsR at hh
            simp only [u1, show (unpackV r).1 < (p.2.1.length : Int) by omega, if_true]
            by_cases e1 : p.1.getD (unpackV r).1.toNat 0 = (unpackV r).2.1
            · rw [if_pos e1]
              have e2 : (p.2.1.getD (unpackV r).1.toNat 0 == 1) = false := by
                rw [beq_eq_false_iff_ne]; exact fun q => hh ⟨q, e1⟩
              rw [e2]
              simp
            · rw [if_neg e1]
              simp
        · rw [if_pos (by omega), retire_not (fun q => hs q.2)]
          simp
      · rw [if_neg hu, retire_not (fun q => hu q.1)]
        simp
    · rw [chk_neg hk, if_neg (by decide)]
  · simp only [hf, decide_false, Bool.not_false, cond_true]

theorem reclaims_loop (p : Pool) (u : Int) (n N : Nat) (hp : okP p) (hn : p.1.length = n) (q : Pool) (hq : okP q) (hqn : q.1.length = n) (hin : ∀ t, t < n →
      (recCond u t p → q.1.getD t 0 = p.1.getD t 0 + 1 ∧ q.2.1.getD t 0 = 0 ∧ q.2.2.1.getD t 0 = 0) ∧ (¬ recCond u t p → q.1.getD t 0 = p.1.getD t 0 ∧ q.2.1.getD t 0 = p.2.1.getD t 0 ∧ q.2.2.1.getD t 0 = p.2.2.1.getD t 0)) (hN : N = cntR u p n) :
    ∀ (k i : Nat), i ≤ n → n < k + i → tendrillaw05_PoolReclaims_L22 k u N (cntR u p i) n i p.1 p.2.1 p.2.2.1 p.2.2.2 q.1 q.2.1 q.2.2.1 q.2.2.2 = some true
  | 0, i, hi, hk => by omega
  | k + 1, i, hi, hk => by
    have hlp := hp.lens
    have hlq := hq.lens
    rw [tendrillaw05_PoolReclaims_L22]
    by_cases hlt : i < n
    · have ih := reclaims_loop p u n N hp hn q hq hqn hin hN k (i + 1) (by omega) (by omega)
      have hs := hp.slot (t := i) (by omega)
      have hle := cntR_le u p i
      obtain ⟨h1, h2⟩ := hin i hlt
      simp only [show (i : Int) < (n : Int) by omega, show (0 : Int) ≤ (i : Int) by omega, show p.1.length = n from hn, show p.2.1.length = n by omega, show p.2.2.1.length = n by omega, show q.1.length = n by omega, show q.2.1.length = n by omega, decide_true, cond_true, Int.toNat_natCast, wi (show i ≤ 1000000 by omega), wi (show cntR u p i ≤ 1000000 by omega), dec, nec, eqc]
      by_cases hc : recCond u i p
      · obtain ⟨e1, e2, e3⟩ := h1 hc
        have hc' := hc
        unfold recCond at hc'
        have ec : cntR u p (i + 1) = cntR u p i + 1 := by
          show cntR u p i + (if recCond u i p then 1 else 0) = _
          rw [if_pos hc]
        rw [ec] at ih
        have g1 := hs.1
        have g2 := hs.2.1
        rw [e1, e2, hc'.1, if_neg (by decide), if_pos rfl, if_pos rfl, if_neg (by omega), w64 (by omega) (by omega), if_pos rfl]
        exact ih
      · obtain ⟨e1, e2, e3⟩ := h2 hc
        have ec : cntR u p (i + 1) = cntR u p i := by
          show cntR u p i + (if recCond u i p then 1 else 0) = _
          rw [if_neg hc]; rfl
        rw [ec] at ih
        unfold recCond at hc
        have g2 := hs.2.1
        rw [e1, e2, if_pos rfl, if_pos rfl]
        by_cases a1 : p.2.1.getD i 0 = 2
        · rw [if_pos a1]
          by_cases a2 : p.2.2.1.getD i 0 ≤ u
          · rw [if_pos a2]
            by_cases a3 : p.1.getD i 0 = 1099511627775
            · rw [if_neg (by omega)]; exact ih
            · exact absurd ⟨a1, a2, a3⟩ hc
          · rw [if_neg a2]; exact ih
        · rw [if_neg a1]; exact ih
    · have : i = n := by omega
      subst this
      simp only [Int.lt_irrefl, decide_false, cond_false, hN, beq_self_eq_true, cond_true, eta, pcheck_eq q hq.small.2.2.2, Option.bind_some, chk_pos hq]

theorem PoolReclaims_K (K : Nat) (hK : 1000 ≤ K) (x : Pool × Int) : tendrillaw05_PoolReclaims_K K x = some true := by
  obtain ⟨p, u⟩ := x
  unfold tendrillaw05_PoolReclaims_K
  simp only [live_eq, Option.bind_some, Bool.not_true, cond_false, eta, few_eq']
  by_cases hf : Few p
  · have hF : p.2.2.2.length ≤ 1000 := by have := hf.2.2.2; omega
    simp only [hf, decide_true, Bool.not_true, cond_false, pcheck_eq p hF, preclaim_eq p u hF, Option.bind_some, eta, nec, eqc, dec]
    by_cases hk : okP p
    · rw [chk_pos hk, if_pos rfl, reclaim_some u hk]
      have hl := hk.lens
      have hlen := recFrom_len u p.1.length 0 p
      have hm := recFrom_many u p p.1.length
      have hle := cntR_le u p p.1.length
      simp only [hlen.1, hlen.2.1, hl.2.1, if_true]
      rw [if_pos (by rw [w64 (by omega) (by omega)]; omega)]
      have := reclaims_loop p u p.1.length (cntR u p p.1.length) hk rfl (recFrom u p.1.length 0 p) (okP_reclaim u hk) hlen.1 (fun t ht => recFrom_in u p.1.length 0 t p (by omega) (by omega) ht hl.2.1 hl.2.2) rfl K 0 (by omega) (by omega)
      rw [show ((0 : Nat) : Int) = 0 from rfl, show ((cntR u p 0 : Nat) : Int) = 0 from rfl] at this
      rw [this]
    · rw [chk_neg hk, if_neg (by decide)]
  · simp only [hf, decide_false, Bool.not_false, cond_true]

theorem PoolReclaims (x : Pool × Int) (_ : InRT [⟨true, .pair (.sl .int) (.pair (.sl .int) (.pair (.sl .int) (.sl .int)))⟩, ⟨false, .int⟩] x) : tendrillaw05_PoolReclaims x = some true := PoolReclaims_K 2000000 (by decide) x

/-! ### Whatever is done -/
/-- What is counted of a pool that may be. -/
theorem whole_tail (p : Pool) (n : Nat) (hp : okP p) (hn : p.1.length = n) : countV p = (((p.2.1.count 1 : Nat) : Int), ((p.2.1.count 2 : Nat) : Int), ((p.2.1.count 0 : Nat) : Int)) ∧
    wrap64 (wrap64 (((p.2.1.count 1 : Nat) : Int) + ((p.2.1.count 2 : Nat) : Int)) + ((p.2.1.count 0 : Nat) : Int)) = n ∧ ((p.2.1.count 0 : Nat) : Int) = p.2.2.2.length := by
  obtain ⟨h1, h2⟩ := okP_counts hp
  have hl := hp.lens
  refine ⟨if_pos hp, ?_, by omega⟩
  rw [w64 (n := ((p.2.1.count 1 : Nat) : Int) + _) (by omega) (by omega), w64 (by omega) (by omega)]
  omega

/-- A reference that may be, of one of n slots. -/
def refOk (n : Nat) (r : Int) : Prop := ∃ s g : Int, r = 1 + 1024 * g + s ∧ 0 ≤ s ∧ s < (n : Int) ∧ 0 ≤ g ∧ g < 1099511627776
theorem refOk.unpack {n : Nat} {r : Int} (hn : n ≤ 64) (h : refOk n r) : (unpackV r).2.2 = 0 ∧ (unpackV r).1 < (n : Int) ∧ 0 ≤ (unpackV r).1 ∧ (-9223372036854775808 ≤ r ∧ r ≤ 9223372036854775807) := by
  obtain ⟨s, g, rfl, h1, h2, h3, h4⟩ := h
  rw [unpack_pack s g ⟨h1, by omega, h3, h4⟩]
  exact ⟨rfl, h2, h1, by omega, by omega⟩

theorem take_cases (p : Pool) (hp : okP p) : (takeV p = (noP, 0, 3)) ∨ ∃ f F, p.2.2.2 = f :: F ∧ takeV p = ((p.1, p.2.1.set f.toNat 1, p.2.2.1, F), 1 + 1024 * p.1.getD f.toNat 0 + f, 0) ∧ okP (p.1, p.2.1.set f.toNat 1, p.2.2.1, F) ∧ 0 ≤ f ∧ f < (p.1.length : Int) ∧ p.2.1.getD f.toNat 0 = 0 ∧ refOk p.1.length (1 + 1024 * p.1.getD f.toNat 0 + f) := by
  obtain ⟨G, S, W, F⟩ := p
  cases F with
  | nil => exact .inl (take_full hp)
  | cons f F =>
    obtain ⟨h1, h2, h3⟩ := okP_take hp
    have hs := hp.slot (t := f.toNat) (by simp only; omega)
    exact .inr ⟨f, F, rfl, take_one hp, h1, h2.1, h2.2, h3, f, G.getD f.toNat 0, rfl, h2.1, h2.2, hs.1, by have := hs.2.1; simp only at this; omega⟩

theorem u64_nat (m : Nat) (h : m ≤ 1000) : Go.IntKind.u64.wrap (m : Int) = (m : Int) := by
  show Int.emod (m : Int) (2 ^ 64) = (m : Int)
  exact Int.emod_eq_of_lt (by omega) (by omega)
theorem u64_nonneg (x : Int) : 0 ≤ Go.IntKind.u64.wrap x := Int.emod_nonneg x (by decide)

theorem at_in (x : Int) (m : Nat) (h0 : 0 < m) (h : m ≤ 1000) : wrap64 ((Go.IntKind.u64.wrap x).tmod (m : Int)) = (Go.IntKind.u64.wrap x) % (m : Int) ∧ 0 ≤ (Go.IntKind.u64.wrap x) % (m : Int) ∧ (Go.IntKind.u64.wrap x) % (m : Int) < (m : Int) := by
  have h1 := u64_nonneg x
  have h2 := Int.emod_nonneg (Go.IntKind.u64.wrap x) (show (m : Int) ≠ 0 by omega)
  have h3 := Int.emod_lt_of_pos (Go.IntKind.u64.wrap x) (show (0 : Int) < (m : Int) by omega)
  refine ⟨?_, h2, h3⟩
  rw [(tdm _ (m : Int) h1).2, w64 (by omega) (by omega)]

theorem tail_gen0 (a : Option (Int × Int × Int)) (b : Option Int) (x y z l : Int) (n : Int) (ha : a = some (x, y, z)) (hb : b = some 0) (h1 : wrap64 (wrap64 (x + y) + z) = n) (h2 : z = l) (h3 : 0 ≤ x) (h4 : 0 ≤ y) (X : Option Bool) :
    (a.bind fun r => b.bind fun c => if c = 0 then (if wrap64 (wrap64 (r.1 + r.2.1) + r.2.2) = n then (if r.2.2 = l then (if r.1 < 0 then some false else if r.2.1 < 0 then some false else X) else some false) else some false) else some false) = X := by
  subst ha; subst hb
  simp only [Option.bind_some, if_true]
  rw [if_pos h1, if_pos h2, if_neg (by omega), if_neg (by omega)]

theorem tail_gen (q : Pool) (n : Nat) (hq : okP q) (hqn : q.1.length = n) (X : Option Bool) :
    ((pool_Count q).bind fun r => (pool_Check q).bind fun c => if c = 0 then (if wrap64 (wrap64 (r.1 + r.2.1) + r.2.2) = (n : Int) then (if r.2.2 = (q.2.2.2.length : Int) then (if r.1 < 0 then some false else if r.2.1 < 0 then some false else X) else some false) else some false) else some false) = X := by
  obtain ⟨w1, w2, w3⟩ := whole_tail q n hq hqn
  have e1 := pcount_eq q hq.small.2.2.2
  have e2 := pcheck_eq q hq.small.2.2.2
  rw [chk_pos hq] at e2
  rw [w1] at e1
  exact tail_gen0 _ _ _ _ _ _ _ e1 e2 w2 w3 (by omega) (by omega) X

theorem whole_loop (n : Nat) (hn : n ≤ 64) (st : List Int) (m : Nat) (hm : st.length = m) (hm2 : m ≤ 60) : ∀ (k i : Nat) (refs : List Int) (p : Pool), okP p → p.1.length = n → (∀ r ∈ refs, refOk n r) → refs.length ≤ i → i ≤ m → m < k + i →
    tendrillaw05_PoolWhole_L18 k n st m i refs p.1 p.2.1 p.2.2.1 p.2.2.2 = some true
  | 0, i, refs, p, hp, hpn, hr, hl, hi, hk => by omega
  | k + 1, i, refs, p, hp, hpn, hr, hl, hi, hk => by
    rw [tendrillaw05_PoolWhole_L18]
    by_cases hlt : i < m
    · have hF := hp.small.2.2.2
      -- what follows each step
      have tail : ∀ (q : Pool) (refs' : List Int), okP q → q.1.length = n → (∀ r ∈ refs', refOk n r) → refs'.length ≤ i + 1 →
          ((pool_Count q).bind fun r => (pool_Check q).bind fun c => if c = 0 then (if wrap64 (wrap64 (r.1 + r.2.1) + r.2.2) = (n : Int) then (if r.2.2 = (q.2.2.2.length : Int) then (if r.1 < 0 then some false else if r.2.1 < 0 then some false else
            tendrillaw05_PoolWhole_L18 k n st m (i + 1 : Nat) refs' q.1 q.2.1 q.2.2.1 q.2.2.2) else some false) else some false) else some false) = some true := by
        intro q refs' hq hqn hr' hl'
        exact (tail_gen q n hq hqn _).trans (whole_loop n hn st m hm hm2 k (i + 1) refs' q hq hqn hr' hl' (by omega) (by omega))
      simp only [show (i : Int) < (m : Int) by omega, show (0 : Int) ≤ (i : Int) by omega, hm, decide_true, cond_true, Int.toNat_natCast, wi (show i ≤ 1000000 by omega), dec, nec, eqc, eta]
      obtain ⟨s, hs⟩ : ∃ s, st.getD i 0 = s := ⟨_, rfl⟩
      simp only [hs]
      have take : ∀ (A : Option Bool), ((pool_Take p).bind fun r2 => if r2.2.2 = 0 then (if refs.length + [r2.2.1].length ≤ 1000000 then (pool_Count r2.1).bind fun r => (pool_Check r2.1).bind fun c => if c = 0 then (if wrap64 (wrap64 (r.1 + r.2.1) + r.2.2) = (n : Int) then (if r.2.2 = (r2.1.2.2.2.length : Int) then (if r.1 < 0 then some false else if r.2.1 < 0 then some false else
            tendrillaw05_PoolWhole_L18 k n st m (i + 1 : Nat) (refs ++ [r2.2.1]) r2.1.1 r2.1.2.1 r2.1.2.2.1 r2.1.2.2.2) else some false) else some false) else some false else none) else if r2.2.2 = 3 then (pool_Count p).bind fun r => (pool_Check p).bind fun c => if c = 0 then (if wrap64 (wrap64 (r.1 + r.2.1) + r.2.2) = (n : Int) then (if r.2.2 = (p.2.2.2.length : Int) then (if r.1 < 0 then some false else if r.2.1 < 0 then some false else
            tendrillaw05_PoolWhole_L18 k n st m (i + 1 : Nat) refs p.1 p.2.1 p.2.2.1 p.2.2.2) else some false) else some false) else some false else A) = some true := by
        intro A
        rw [ptake_eq p hF, Option.bind_some]
        rcases take_cases p hp with h | ⟨f, F, h1, h2, h3, h4, h5, h6, h7⟩
        · rw [h]
          simp only []
          rw [if_neg (by decide), if_pos trivial]
          exact tail p refs hp hpn hr (by omega)
        · rw [h2]
          simp only []
          rw [if_pos trivial, if_pos (by simp; omega)]
          refine tail (p.1, p.2.1.set f.toNat 1, p.2.2.1, F) _ h3 hpn (fun r hr' => ?_) (by simp; omega)
          rcases List.mem_append.1 hr' with h | h
          · exact hr r h
          · rw [List.mem_singleton] at h; subst h; rw [← hpn]; exact h7
      by_cases c0 : Go.bits .and .i64 s 3 = 0
      · rw [if_pos c0]; exact take _
      rw [if_neg c0]
      by_cases c1 : Go.bits .and .i64 s 3 = 1
      · rw [if_pos c1]; exact take _
      rw [if_neg c1]
      by_cases c2 : Go.bits .and .i64 s 3 = 2
      · rw [if_pos c2]
        by_cases hz : 0 < refs.length
        · obtain ⟨x1, x2, x3⟩ := at_in (s.fdiv ((2 : Int) ^ Min.min (Int.toNat (2 : Int)) Go.IntKind.i64.bits)) refs.length hz (by omega)
          rw [u64_nat refs.length (by omega), x1]
          generalize Go.IntKind.u64.wrap (s.fdiv ((2 : Int) ^ Min.min (Int.toNat (2 : Int)) Go.IntKind.i64.bits)) % (refs.length : Int) = a at x2 x3
          rw [if_pos (by omega), if_neg (by omega), if_pos x2, if_pos x3]
          have hmem : refs.getD a.toNat 0 ∈ refs := by rw [getD_get refs a.toNat 0 (by omega)]; exact List.getElem_mem _
          obtain ⟨y1, y2, y3, y4⟩ := (hr _ hmem).unpack hn
          rw [pretire_eq p _ i hF y4, Option.bind_some, retire_some hp y1 (by rw [hpn]; exact y2)]
          by_cases hh : holdsR p (unpackV (refs.getD a.toNat 0))
          · rw [if_pos hh]
            simp only []
            rw [if_pos trivial]
            exact tail (p.1, p.2.1.set _ 2, p.2.2.1.set _ i, p.2.2.2) refs (okP_retire i hp y3 (by rw [hpn]; exact y2) hh) hpn hr (by omega)
          · rw [if_neg hh]
            simp only []
            rw [if_neg (by decide), if_pos trivial]
            exact tail p refs hp hpn hr (by omega)
        · rw [if_neg (by omega)]
          exact tail p refs hp hpn hr (by omega)
      · rw [if_neg c2, preclaim_eq p _ hF, Option.bind_some, reclaim_some _ hp]
        exact tail (recFrom _ p.1.length 0 p) refs (okP_reclaim _ hp) (by rw [(recFrom_len _ p.1.length 0 p).1, hpn]) hr (by omega)
    · have : i = m := by omega
      subst this
      simp only [Int.lt_irrefl, decide_false, cond_false]

theorem PoolWhole_K (K : Nat) (hK : 1000 ≤ K) (x : Int × List Int) : tendrillaw05_PoolWhole_K K x = some true := by
  obtain ⟨n, st⟩ := x
  unfold tendrillaw05_PoolWhole_K
  simp only [live_eq, Option.bind_some, Bool.not_true, cond_false, pnew_eq, newV]
  by_cases h : 1 ≤ n ∧ n ≤ 64
  · rw [if_pos h]
    simp only [nec, eqc, dec, if_true]
    by_cases h2 : 60 < (st.length : Int)
    · rw [if_pos h2]
    · rw [if_neg h2]
      obtain ⟨q, rfl⟩ := Int.eq_ofNat_of_zero_le (show 0 ≤ n by omega)
      have := whole_loop q (by omega) st st.length rfl (by omega) K 0 [] (newP q) (okP_new q (by omega) (by omega)) (by simp [newP]) (fun r hr => by simp at hr) (by simp) (by omega) (by omega)
      rw [show ((0 : Nat) : Int) = 0 from rfl] at this
      rw [Int.toNat_natCast]
      exact this
  · rw [if_neg h]
    simp

theorem PoolWhole (x : Int × List Int) (_ : InRT [⟨false, .int⟩, ⟨false, .sl .int⟩] x) : tendrillaw05_PoolWhole x = some true := PoolWhole_K 2000000 (by decide) x

/-! ### No reference is told twice -/
/-- A reference that was told: of an elder generation, or of a slot that isn't free. -/
def told (p : Pool) (r : Int) : Prop := ∃ s g : Int, r = 1 + 1024 * g + s ∧ 0 ≤ s ∧ s < (p.1.length : Int) ∧ 0 ≤ g ∧ (g < p.1.getD s.toNat 0 ∨ (g = p.1.getD s.toNat 0 ∧ p.2.1.getD s.toNat 0 ≠ 0))

theorem told.refOk {p : Pool} {r : Int} (hp : okP p) (h : told p r) : refOk p.1.length r := by
  obtain ⟨s, g, h1, h2, h3, h4, h5⟩ := h
  have hs := hp.slot (t := s.toNat) (by omega)
  have := hs.2.1
  exact ⟨s, g, h1, h2, h3, h4, by omega⟩

theorem told_retire {p : Pool} {r w : Int} {u : Int × Int × Int} (hp : okP p) (h0 : 0 ≤ u.1) (h1 : u.1 < (p.1.length : Int)) (h : told p r) : told (p.1, p.2.1.set u.1.toNat 2, p.2.2.1.set u.1.toNat w, p.2.2.2) r := by
  obtain ⟨s, g, a1, a2, a3, a4, a5⟩ := h
  refine ⟨s, g, a1, a2, a3, a4, a5.imp id fun ⟨b1, b2⟩ => ⟨b1, ?_⟩⟩
  have hl := hp.lens
  show (p.2.1.set u.1.toNat 2).getD s.toNat 0 ≠ 0
  rw [getD_set _ _ _ _ _ (by omega)]
  split
  · decide
  · exact b2

theorem told_reclaim {p : Pool} {r u : Int} (hp : okP p) (h : told p r) : told (recFrom u p.1.length 0 p) r := by
  obtain ⟨s, g, a1, a2, a3, a4, a5⟩ := h
  have hl := hp.lens
  obtain ⟨q1, q2⟩ := recFrom_in u p.1.length 0 s.toNat p (by omega) (by omega) (by omega) hl.2.1 hl.2.2
  refine ⟨s, g, a1, a2, by rw [(recFrom_len u p.1.length 0 p).1]; exact a3, a4, ?_⟩
  by_cases hc : recCond u s.toNat p
  · rw [(q1 hc).1]; exact .inl (by omega)
  · rw [(q2 hc).1, (q2 hc).2.1]; exact a5

theorem told_take {p : Pool} {f : Int} {F : List Int} (hp : okP p) (hf : 0 ≤ f ∧ f < (p.1.length : Int)) (hz : p.2.1.getD f.toNat 0 = 0) :
    (∀ r, told p r → told (p.1, p.2.1.set f.toNat 1, p.2.2.1, F) r ∧ r ≠ 1 + 1024 * p.1.getD f.toNat 0 + f) ∧ told (p.1, p.2.1.set f.toNat 1, p.2.2.1, F) (1 + 1024 * p.1.getD f.toNat 0 + f) := by
  have hl := hp.lens
  have hs := hp.slot (t := f.toNat) (by omega)
  constructor
  · rintro r ⟨s, g, a1, a2, a3, a4, a5⟩
    refine ⟨⟨s, g, a1, a2, a3, a4, ?_⟩, fun e => ?_⟩
    · refine a5.imp id fun ⟨b1, b2⟩ => ⟨b1, ?_⟩
      show (p.2.1.set f.toNat 1).getD s.toNat 0 ≠ 0
      rw [getD_set _ _ _ _ _ (by omega)]
      split
      · decide
      · exact b2
    · have : s = f ∧ g = p.1.getD f.toNat 0 := by omega
      obtain ⟨rfl, rfl⟩ := this
      rcases a5 with a5 | a5
      · omega
      · exact a5.2 hz
  · refine ⟨f, p.1.getD f.toNat 0, rfl, hf.1, hf.2, hs.1, .inr ⟨rfl, ?_⟩⟩
    show (p.2.1.set f.toNat 1).getD f.toNat 0 ≠ 0
    rw [getD_set _ _ _ _ _ (by omega), if_pos rfl]
    decide

theorem once_loops (n : Nat) (hn : n ≤ 64) (st : List Int) (m : Nat) (hm : st.length = m) (hm2 : m ≤ 60) : ∀ (k : Nat),
    (∀ (i : Nat) (refs : List Int) (p : Pool), okP p → p.1.length = n → (∀ r ∈ refs, told p r) → refs.length ≤ i → i ≤ m → (m - i) * 100 < k → tendrillaw05_PoolOnce_L18 k st m i refs p.1 p.2.1 p.2.2.1 p.2.2.2 = some true) ∧
    (∀ (i j : Nat) (s ref : Int) (refs : List Int) (p : Pool), okP p → p.1.length = n → (∀ r ∈ refs ++ [ref], told p r) → (∀ r ∈ refs, r ≠ ref) → refs.length ≤ i → i < m → j ≤ refs.length → (m - i - 1) * 100 + (refs.length - j) + 1 < k →
      tendrillaw05_PoolOnce_L30 k i s ref st m i refs.length j refs p.1 p.2.1 p.2.2.1 p.2.2.2 = some true)
  | 0 => ⟨fun _ _ _ _ _ _ _ _ h => by omega, fun _ _ _ _ _ _ _ _ _ _ _ _ _ h => by omega⟩
  | k + 1 => by
    obtain ⟨ih1, ih2⟩ := once_loops n hn st m hm hm2 k
    -- what is reclaimed at the end of a step
    have rec_ : ∀ (i : Nat) (s : Int) (refs : List Int) (p : Pool), okP p → p.1.length = n → (∀ r ∈ refs, told p r) → refs.length ≤ i + 1 → i < m → (m - i - 1) * 100 < k →
        (if Go.bits .and .i64 s 1 = 0 then (pool_Reclaim (p, (i : Int))).bind fun r4 => tendrillaw05_PoolOnce_L18 k st m (i + 1 : Nat) refs r4.1.1 r4.1.2.1 r4.1.2.2.1 r4.1.2.2.2
          else tendrillaw05_PoolOnce_L18 k st m (i + 1 : Nat) refs p.1 p.2.1 p.2.2.1 p.2.2.2) = some true := by
      intro i s refs p hp hpn hr hl hi hk
      split
      · rw [preclaim_eq p _ hp.small.2.2.2, Option.bind_some, reclaim_some _ hp]
        exact ih1 (i + 1) refs (recFrom _ p.1.length 0 p) (okP_reclaim _ hp) (by rw [(recFrom_len _ p.1.length 0 p).1, hpn]) (fun r h => told_reclaim hp (hr r h)) hl (by omega) (by omega)
      · exact ih1 (i + 1) refs p hp hpn hr hl (by omega) (by omega)
    -- the step behind a reference taken, or not
    have ret : ∀ (i : Nat) (s : Int) (refs : List Int) (p : Pool), okP p → p.1.length = n → (∀ r ∈ refs, told p r) → refs.length ≤ i + 1 → i < m → (m - i - 1) * 100 < k →
        (if 0 < (refs.length : Int) then (if 0 ≤ s then (if (refs.length : Int) = 0 then none else (if 0 ≤ s.tmod refs.length then (if s.tmod refs.length < (refs.length : Int) then
          (pool_Retire (p, refs.getD (s.tmod refs.length).toNat 0, (i : Int))).bind fun r3 => if r3.2 = 0 then
            (if Go.bits .and .i64 s 1 = 0 then (pool_Reclaim (r3.1, (i : Int))).bind fun r4 => tendrillaw05_PoolOnce_L18 k st m (i + 1 : Nat) refs r4.1.1 r4.1.2.1 r4.1.2.2.1 r4.1.2.2.2
              else tendrillaw05_PoolOnce_L18 k st m (i + 1 : Nat) refs r3.1.1 r3.1.2.1 r3.1.2.2.1 r3.1.2.2.2)
            else (if Go.bits .and .i64 s 1 = 0 then (pool_Reclaim (p, (i : Int))).bind fun r4 => tendrillaw05_PoolOnce_L18 k st m (i + 1 : Nat) refs r4.1.1 r4.1.2.1 r4.1.2.2.1 r4.1.2.2.2
              else tendrillaw05_PoolOnce_L18 k st m (i + 1 : Nat) refs p.1 p.2.1 p.2.2.1 p.2.2.2)
          else none) else none))
          else (if Go.bits .and .i64 s 1 = 0 then (pool_Reclaim (p, (i : Int))).bind fun r4 => tendrillaw05_PoolOnce_L18 k st m (i + 1 : Nat) refs r4.1.1 r4.1.2.1 r4.1.2.2.1 r4.1.2.2.2
              else tendrillaw05_PoolOnce_L18 k st m (i + 1 : Nat) refs p.1 p.2.1 p.2.2.1 p.2.2.2))
        else (if Go.bits .and .i64 s 1 = 0 then (pool_Reclaim (p, (i : Int))).bind fun r4 => tendrillaw05_PoolOnce_L18 k st m (i + 1 : Nat) refs r4.1.1 r4.1.2.1 r4.1.2.2.1 r4.1.2.2.2
              else tendrillaw05_PoolOnce_L18 k st m (i + 1 : Nat) refs p.1 p.2.1 p.2.2.1 p.2.2.2)) = some true := by
      intro i s refs p hp hpn hr hl hi hk
      by_cases hz : 0 < refs.length
      · rw [if_pos (by omega)]
        by_cases hs : 0 ≤ s
        · rw [if_pos hs, if_neg (by omega)]
          have e1 := (tdm s (refs.length : Int) hs).2
          have e2 := Int.emod_nonneg s (show (refs.length : Int) ≠ 0 by omega)
          have e3 := Int.emod_lt_of_pos s (show (0 : Int) < (refs.length : Int) by omega)
          rw [e1, if_pos e2, if_pos e3]
          generalize s % (refs.length : Int) = a at e2 e3
          have hmem : refs.getD a.toNat 0 ∈ refs := by rw [getD_get refs a.toNat 0 (by omega)]; exact List.getElem_mem _
          obtain ⟨y1, y2, y3, y4⟩ := ((hr _ hmem).refOk hp).unpack (by omega)
          rw [pretire_eq p _ i hp.small.2.2.2 y4, Option.bind_some, retire_some hp y1 y2]
          by_cases hh : holdsR p (unpackV (refs.getD a.toNat 0))
          · rw [if_pos hh]
            simp only []
            rw [if_pos trivial]
            exact rec_ i s refs (p.1, p.2.1.set _ 2, p.2.2.1.set _ i, p.2.2.2) (okP_retire i hp y3 y2 hh) hpn (fun r h => told_retire hp y3 y2 (hr r h)) hl hi hk
          · rw [if_neg hh]
            simp only []
            rw [if_neg (by decide)]
            exact rec_ i s refs p hp hpn hr hl hi hk
        · rw [if_neg hs]
          exact rec_ i s refs p hp hpn hr hl hi hk
      · rw [if_neg (by omega)]
        exact rec_ i s refs p hp hpn hr hl hi hk
    constructor
    · intro i refs p hp hpn hr hl hi hk
      rw [tendrillaw05_PoolOnce_L18]
      by_cases hlt : i < m
      · simp only [show (i : Int) < (m : Int) by omega, show (0 : Int) ≤ (i : Int) by omega, hm, decide_true, cond_true, Int.toNat_natCast, wi (show i ≤ 1000000 by omega), dec, nec, eqc, eta, ptake_eq p hp.small.2.2.2, Option.bind_some]
        rcases take_cases p hp with h | ⟨f, F, h1, h2, h3, h4, h5, h6, h7⟩
        · rw [h]
          simp only []
          rw [if_neg (by decide)]
          exact ret i _ refs p hp hpn hr (by omega) hlt (by omega)
        · rw [h2]
          simp only []
          rw [if_pos trivial]
          obtain ⟨t1, t2⟩ := told_take (F := F) hp ⟨h4, h5⟩ h6
          refine ih2 i 0 _ _ refs (p.1, p.2.1.set f.toNat 1, p.2.2.1, F) h3 hpn (fun r hr' => ?_) (fun r h => (t1 r (hr r h)).2) hl hlt (by omega) (by omega)
          rcases List.mem_append.1 hr' with h | h
          · exact (t1 r (hr r h)).1
          · rw [List.mem_singleton] at h; subst h; exact t2
      · have : i = m := by omega
        subst this
        simp only [Int.lt_irrefl, decide_false, cond_false]
    · intro i j s ref refs p hp hpn hr hne hl hi hj hk
      rw [tendrillaw05_PoolOnce_L30]
      by_cases hlt : j < refs.length
      · have e : refs.getD j 0 ≠ ref := hne _ (by rw [getD_get refs j 0 hlt]; exact List.getElem_mem _)
        simp only [show (j : Int) < (refs.length : Int) by omega, show (0 : Int) ≤ (j : Int) by omega, decide_true, cond_true, Int.toNat_natCast, wi (show j ≤ 1000000 by omega), eqc, if_neg e]
        exact ih2 i (j + 1) s ref refs p hp hpn hr hne hl hi (by omega) (by omega)
      · have : j = refs.length := by omega
        subst this
        simp only [Int.lt_irrefl, decide_false, cond_false, wi (show i ≤ 1000000 by omega), dec, nec, eqc, eta]
        rw [if_pos (by simp; omega)]
        exact ret i s (refs ++ [ref]) p hp hpn hr (by simp; omega) hi (by omega)

theorem PoolOnce_K (K : Nat) (hK : 10000 ≤ K) (x : Int × List Int) : tendrillaw05_PoolOnce_K K x = some true := by
  obtain ⟨n, st⟩ := x
  unfold tendrillaw05_PoolOnce_K
  simp only [live_eq, Option.bind_some, Bool.not_true, cond_false, pnew_eq, newV]
  by_cases h : 1 ≤ n ∧ n ≤ 64
  · rw [if_pos h]
    simp only [nec, eqc, dec, if_true]
    by_cases h2 : 60 < (st.length : Int)
    · rw [if_pos h2]
    · rw [if_neg h2]
      obtain ⟨q, rfl⟩ := Int.eq_ofNat_of_zero_le (show 0 ≤ n by omega)
      have := (once_loops q (by omega) st st.length rfl (by omega) K).1 0 [] (newP q) (okP_new q (by omega) (by omega)) (by simp [newP]) (fun r hr => by simp at hr) (by simp) (by omega) (by omega)
      rw [show ((0 : Nat) : Int) = 0 from rfl] at this
      rw [Int.toNat_natCast]
      exact this
  · rw [if_neg h]
    simp

theorem PoolOnce (x : Int × List Int) (_ : InRT [⟨false, .int⟩, ⟨false, .sl .int⟩] x) : tendrillaw05_PoolOnce x = some true := PoolOnce_K 2000000 (by decide) x
end Go.Proofs.Ytcoiboghdmmdcaa.Pure
