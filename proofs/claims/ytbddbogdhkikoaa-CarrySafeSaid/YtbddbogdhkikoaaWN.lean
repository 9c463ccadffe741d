/- Plain laws of translations, on: what is left, and two that make one. No condition. -/
import Derived.Test.YtbddbogdhkikoaaWM
set_option linter.unusedSimpArgs false
set_option linter.unusedVariables false
namespace Go.Proofs.Ytbddbogdhkikoaa
open Go Go.Kx

theorem filter_cut {l : List Pr} (hp : l.Pairwise Up) (n : Int) : ∃ m, m ≤ l.length ∧ l.filter (fun x => decide (x.1 ≤ n)) = l.take m ∧ (∀ x ∈ l.take m, x.1 ≤ n) ∧ ∀ x ∈ l.drop m, n < x.1 := by
  induction l with
  | nil => exact ⟨0, Nat.le_refl _, rfl, fun x hx => by simp at hx, fun x hx => by simp at hx⟩
  | cons x l ih =>
    obtain ⟨h1, h2⟩ := List.pairwise_cons.1 hp
    by_cases hx : x.1 ≤ n
    · obtain ⟨m, q1, q2, q3, q4⟩ := ih h2
      refine ⟨m + 1, by simp; omega, ?_, fun y hy => ?_, fun y hy => ?_⟩
      · rw [List.filter_cons, if_pos (by simpa using hx), q2]; rfl
      · simp only [List.take_succ_cons, List.mem_cons] at hy
        rcases hy with rfl | hy
        · exact hx
        · exact q3 y hy
      · simp only [List.drop_succ_cons] at hy
        exact q4 y hy
    · refine ⟨0, Nat.zero_le _, ?_, fun y hy => by simp at hy, fun y hy => ?_⟩
      · rw [List.take_zero, List.filter_eq_nil_iff]
        intro y hy
        rcases List.mem_cons.1 hy with rfl | hy
        · simpa using hx
        · have := (h1 y hy).1
          simp
          omega
      · simp only [List.drop_zero, List.mem_cons] at hy
        rcases hy with rfl | hy
        · omega
        · have := (h1 y hy).1
          omega
theorem lastI_cut {l : List Pr} (hp : l.Pairwise Up) (n : Int) : ∃ m, m ≤ l.length ∧ l.filter (fun x => decide (x.1 ≤ n)) = l.take m ∧ (∀ x ∈ l.take m, x.1 ≤ n) ∧ (∀ x ∈ l.drop m, n < x.1) ∧ lastI l n = m - 1 := by
  obtain ⟨m, q1, q2, q3, q4⟩ := filter_cut hp n
  refine ⟨m, q1, q2, q3, q4, ?_⟩
  unfold lastI
  rw [q2, List.length_take]
  omega
theorem trim_chk {t : Trans} {n : Int} (h : chkT t = 0) : chkT (trimT t n) = 0 ∧ (trimT t n).l.length ≤ t.l.length ∧ (trimT t n).every = t.every := by
  obtain ⟨h1, h2, h3⟩ := (chk0_iff t).1 h
  unfold trimT
  rw [if_pos h]
  refine ⟨(chk0_iff _).2 ⟨by simp; omega, ⟨fun x hx => h2.1 x (List.mem_of_mem_drop hx), h2.2.sublist (List.drop_sublist _ _)⟩, h3⟩, by simp, rfl⟩
theorem trim_told {t : Trans} {n s : Int} (h : chkT t = 0) (hn : n ≤ s) : toldM (trimT t n) true s = toldM t true s := by
  obtain ⟨h1, h2, h3⟩ := (chk0_iff t).1 h
  rw [toldM_good (trim_chk h).1, toldM_good h]
  have : lastP true (trimT t n).l s = lastP true t.l s := by
    unfold trimT
    rw [if_pos h]
    obtain ⟨m, q1, q2, q3, q4, q5⟩ := lastI_cut h2.2 n
    rw [q5]
    dsimp only
    by_cases hm : m = 0
    · subst hm; rfl
    · obtain ⟨x, hx⟩ : ∃ x, t.l[m - 1]? = some x := ⟨t.l[m - 1], List.getElem?_eq_getElem (by omega)⟩
      have hxm : x ∈ t.l.drop (m - 1) := by
        rw [List.drop_eq_getElem_cons (by omega)]
        rw [(List.getElem?_eq_some_iff.1 hx).2]
        exact .head _
      have hxt : x ∈ t.l.take m := by
        refine List.mem_of_getElem? (i := m - 1) ?_
        rw [List.getElem?_take, if_pos (by omega), hx]
      have hxs := q3 x hxt
      have e : t.l = t.l.take (m - 1) ++ t.l.drop (m - 1) := (List.take_append_drop _ _).symm
      unfold lastP
      conv => rhs; rw [e, List.filter_append, List.getLast?_append]
      have hne : (t.l.drop (m - 1)).filter (fun x => decide (sel true x ≤ s)) ≠ [] := fun he => by
        rw [List.filter_eq_nil_iff] at he
        have := he x hxm
        simp [sel] at this
        omega
      obtain ⟨z, hz⟩ : ∃ z, ((t.l.drop (m - 1)).filter (fun x => decide (sel true x ≤ s))).getLast? = some z := ⟨_, List.getLast?_eq_some_getLast hne⟩
      rw [hz]
      rfl
  rw [this]
theorem trim_twice {t : Trans} {n : Int} (h : chkT t = 0) : trimT (trimT t n) n = trimT t n := by
  obtain ⟨h1, h2, h3⟩ := (chk0_iff t).1 h
  have hc := (trim_chk (n := n) h).1
  have e : lastI (trimT t n).l n = 0 := by
    obtain ⟨m, q1, q2, q3, q4, q5⟩ := lastI_cut h2.2 n
    have : (trimT t n).l = t.l.drop (m - 1) := by unfold trimT; rw [if_pos h, q5]
    rw [this]
    unfold lastI
    have hf := List.filter_append (p := fun x : Pr => decide (x.1 ≤ n)) (t.l.take (m - 1)) (t.l.drop (m - 1))
    rw [List.take_append_drop, q2] at hf
    have hl := congrArg List.length hf
    rw [List.length_append] at hl
    have hf2 : (t.l.take (m - 1)).filter (fun x => decide (x.1 ≤ n)) = t.l.take (m - 1) := by
      rw [List.filter_eq_self]
      intro x hx
      have : x ∈ t.l.take m := (List.take_subset_take_left _ (by omega)) hx
      simpa using q3 x this
    rw [hf2, List.length_take, List.length_take] at hl
    omega
  generalize hu : trimT t n = u at *
  unfold trimT
  rw [if_pos hc, e, List.drop_zero]
theorem trim_search {t : Trans} {n : Int} {j : Nat} (hp : t.l.Pairwise Up) (hj : j ≤ t.l.length) (h1 : ∀ x, t.l[j]? = some x → n < x.1) (h2 : ∀ x, 0 < j → t.l[j - 1]? = some x → x.1 ≤ n) : lastI t.l n = j - 1 := by
  obtain ⟨m, q1, q2, q3, q4, q5⟩ := lastI_cut hp n
  rw [q5]
  have : m = j := by
    rcases Nat.lt_trichotomy m j with h | h | h
    · obtain ⟨x, hx⟩ : ∃ x, t.l[j - 1]? = some x := ⟨t.l[j - 1], List.getElem?_eq_getElem (by omega)⟩
      have e1 := h2 x (by omega) hx
      have : x ∈ t.l.drop m := by
        refine List.mem_of_getElem? (i := j - 1 - m) ?_
        rw [List.getElem?_drop, show m + (j - 1 - m) = j - 1 by omega, hx]
      have := q4 x this
      omega
    · exact h
    · obtain ⟨x, hx⟩ : ∃ x, t.l[j]? = some x := ⟨t.l[j], List.getElem?_eq_getElem (by omega)⟩
      have e1 := h1 x hx
      have : x ∈ t.l.take m := by
        refine List.mem_of_getElem? (i := j) ?_
        rw [List.getElem?_take, if_pos (by omega), hx]
      have := q3 x this
      omega
  rw [this]
/-- As the document's loop finds it. -/
theorem trim_loop {t : Trans} {n : Int} {i : Nat} (hp : t.l.Pairwise Up) (h : ((∀ (k : Nat) (x : Pr), t.l[k]? = some x → n < x.1) ∧ i = 0) ∨ (∃ x : Pr, t.l[i]? = some x ∧ x.1 ≤ n ∧ ∀ (k : Nat) (y : Pr), i < k → t.l[k]? = some y → n < y.1)) : lastI t.l n = i := by
  rcases h with ⟨h1, rfl⟩ | ⟨x, hx, h1, h2⟩
  · exact trim_search (j := 0) hp (Nat.zero_le _) (fun x hx => h1 0 x hx) (fun x h0 => absurd h0 (by omega))
  · have := (List.getElem?_eq_some_iff.1 hx).1
    have := trim_search (t := t) (n := n) (j := i + 1) hp (by omega) (fun y hy => h2 _ y (by omega) hy) (fun y _ hy => by rw [Nat.add_sub_cancel, hx] at hy; cases hy; exact h1)
    simpa using this

/-! ### Two that make one -/
def chStep (bl : List Pr) (out : List Pr) (p : Pr) : List Pr :=
  match lastP true bl p.2 with
  | none => out
  | some q => if (out.getLast?.map (·.2)) = some q.2 then out else out ++ [(p.1, q.2)]
def chainF (al bl : List Pr) : List Pr := al.foldl (chStep bl) []
noncomputable def chainM (a b : Trans) : Trans × Int :=
  if chkT a ≠ 0 then (⟨0, []⟩, chkT a) else if chkT b ≠ 0 then (⟨0, []⟩, chkT b) else (⟨max a.every b.every, chainF a.l b.l⟩, 0)
theorem chainF_succ {al bl : List Pr} {k : Nat} {p : Pr} (hp : al[k]? = some p) : chainF (al.take (k + 1)) bl = chStep bl (chainF (al.take k) bl) p := by
  unfold chainF
  rw [List.take_add_one, hp, Option.toList_some, List.foldl_append]
  rfl
structure ChInv (al bl out : List Pr) : Prop where
  good : Good out
  from_ : ∀ z ∈ out, ∃ p ∈ al, ∃ q, lastP true bl p.2 = some q ∧ z = (p.1, q.2)
  none_ : ∀ n, lastP true al n = none → lastP true out n = none
  some_ : ∀ n p, lastP true al n = some p → match lastP true bl p.2 with
    | none => lastP true out n = none
    | some q => ∃ z, lastP true out n = some z ∧ z.2 = q.2
theorem lastP_snoc_lt {l : List Pr} {p : Pr} {n : Int} (h : n < p.1) : lastP true (l ++ [p]) n = lastP true l n := by
  unfold lastP
  rw [List.filter_append]
  have e1 : List.filter (fun x => decide (sel true x ≤ n)) [p] = [] := by
    rw [List.filter_eq_nil_iff]
    intro x hx
    simp at hx
    subst hx
    simp [sel]
    omega
  rw [e1, List.append_nil]
theorem lastP_snoc_ge {l : List Pr} {p : Pr} {n : Int} (h : p.1 ≤ n) : lastP true (l ++ [p]) n = some p := by
  unfold lastP
  rw [List.filter_append]
  have : List.filter (fun x => decide (sel true x ≤ n)) [p] = [p] := by simp [sel, h]
  rw [this, List.getLast?_append]
  simp
theorem lastP_all {l : List Pr} {n : Int} {z : Pr} (h : ∀ x ∈ l, x.1 ≤ n) (hz : l.getLast? = some z) : lastP true l n = some z := by
  unfold lastP
  have : l.filter (fun x => decide (sel true x ≤ n)) = l := by
    rw [List.filter_eq_self]
    intro x hx
    simpa [sel] using h x hx
  rw [this, hz]
theorem ch_inv {al bl : List Pr} (ha : Good al) (hb : Good bl) : ∀ k, k ≤ al.length → ChInv (al.take k) bl (chainF (al.take k) bl)
  | 0, _ => by
    simp only [List.take_zero]
    exact ⟨⟨fun x hx => by simp [chainF] at hx, .nil⟩, fun z hz => by simp [chainF] at hz, fun n _ => rfl, fun n p h => by simp [lastP] at h⟩
  | k + 1, hk => by
    have ih := ch_inv ha hb k (by omega)
    obtain ⟨p0, hp0⟩ : ∃ p, al[k]? = some p := ⟨al[k], List.getElem?_eq_getElem (by omega)⟩
    have htk : al.take (k + 1) = al.take k ++ [p0] := by rw [List.take_add_one, hp0, Option.toList_some]
    rw [chainF_succ hp0, htk]
    generalize hout : chainF (al.take k) bl = out at ih
    have hgk : Good (al.take k ++ [p0]) := by
      rw [← htk]
      exact ⟨fun x hx => ha.1 x (List.mem_of_mem_take hx), ha.2.sublist (List.take_sublist _ _)⟩
    have hlt : ∀ x ∈ al.take k, Up x p0 := fun x hx => (List.pairwise_append.1 hgk.2).2.2 x hx p0 (by simp)
    have hin0 := hgk.1 p0 (by simp)
    have hout1 : ∀ z ∈ out, z.1 < p0.1 := fun z hz => by
      obtain ⟨p, hp, q, _, rfl⟩ := ih.from_ z hz
      exact (hlt p hp).1
    have hmono : ∀ z ∈ out, ∀ q0, lastP true bl p0.2 = some q0 → z.2 ≤ q0.2 := fun z hz q0 hq0 => by
      obtain ⟨p, hp, q, hq, rfl⟩ := ih.from_ z hz
      obtain ⟨hqm, hqn⟩ := lastP_mem hq
      obtain ⟨hqm0, _⟩ := lastP_mem hq0
      have hpp := (hlt p hp).2
      have := lastP_max hb.2 hq0 hqm (by simp [sel] at hqn ⊢; omega)
      have := sel_le hb.2 hqm hqm0 true false this
      simpa [sel] using this
    have below : ∀ n, n < p0.1 → ∀ out', (out' = out ∨ ∃ d, out' = out ++ [(p0.1, d)]) → lastP true (al.take k ++ [p0]) n = lastP true (al.take k) n ∧ lastP true out' n = lastP true out n := fun n hn out' ho => by
      refine ⟨lastP_snoc_lt hn, ?_⟩
      rcases ho with rfl | ⟨d, rfl⟩
      · rfl
      · exact lastP_snoc_lt hn
    cases hq0 : lastP true bl p0.2 with
    | none =>
      have hst : chStep bl out p0 = out := by unfold chStep; rw [hq0]
      rw [hst]
      have hempty : out = [] := by
        rcases out with _ | ⟨z, zs⟩
        · rfl
        · obtain ⟨p, hp, q, hq, _⟩ := ih.from_ z (.head _)
          obtain ⟨hqm, hqn⟩ := lastP_mem hq
          have := lastP_none.1 hq0 q hqm
          have := (hlt p hp).2
          simp [sel] at *
          omega
      refine ⟨ih.good, fun z hz => ?_, fun n hn => ?_, fun n p hn => ?_⟩
      · rw [hempty] at hz; cases hz
      · rw [hempty]; rfl
      · rw [hempty]
        by_cases hnp : n < p0.1
        · rw [(below n hnp out (.inl rfl)).1] at hn
          have := ih.some_ n p hn
          rw [hempty] at this
          exact this
        · rw [lastP_snoc_ge (by omega)] at hn
          cases hn
          rw [hq0]
          rfl
    | some q0 =>
      obtain ⟨hqm0, hqn0⟩ := lastP_mem hq0
      have hinq := hb.1 q0 hqm0
      by_cases hsame : out.getLast?.map (·.2) = some q0.2
      · have hst : chStep bl out p0 = out := by unfold chStep; rw [hq0]; exact if_pos hsame
        rw [hst]
        obtain ⟨z, hz, hz2⟩ := Option.map_eq_some_iff.1 hsame
        refine ⟨ih.good, fun z hz => ?_, fun n hn => ?_, fun n p hn => ?_⟩
        · obtain ⟨p, hp, r⟩ := ih.from_ z hz
          exact ⟨p, List.mem_append_left _ hp, r⟩
        · by_cases hnp : n < p0.1
          · rw [(below n hnp out (.inl rfl)).1] at hn
            exact ih.none_ n hn
          · rw [lastP_snoc_ge (by omega)] at hn; cases hn
        · by_cases hnp : n < p0.1
          · rw [(below n hnp out (.inl rfl)).1] at hn
            exact ih.some_ n p hn
          · rw [lastP_snoc_ge (by omega)] at hn
            cases hn
            rw [hq0]
            exact ⟨z, lastP_all (fun x hx => by have := hout1 x hx; omega) hz, hz2⟩
      · have hst : chStep bl out p0 = out ++ [(p0.1, q0.2)] := by unfold chStep; rw [hq0]; exact if_neg hsame
        rw [hst]
        refine ⟨good_app ih.good ?_ ?_, fun z hz => ?_, fun n hn => ?_, fun n p hn => ?_⟩
        · simp [inP] at hin0 hinq
          exact ⟨hin0.1, hinq.2⟩
        · intro z hz
          have hzm := List.mem_of_getLast? hz
          refine ⟨hout1 z hzm, ?_⟩
          have h1 := hmono z hzm q0 hq0
          have h2 : ¬ z.2 = q0.2 := fun he => hsame (by rw [hz]; simp [he])
          omega
        · rcases List.mem_append.1 hz with hz | hz
          · obtain ⟨p, hp, r⟩ := ih.from_ z hz
            exact ⟨p, List.mem_append_left _ hp, r⟩
          · simp at hz
            exact ⟨p0, by simp, q0, hq0, hz⟩
        · by_cases hnp : n < p0.1
          · obtain ⟨b1, b2⟩ := below n hnp _ (.inr ⟨_, rfl⟩)
            rw [b1] at hn
            rw [b2]
            exact ih.none_ n hn
          · rw [lastP_snoc_ge (by omega)] at hn; cases hn
        · by_cases hnp : n < p0.1
          · obtain ⟨b1, b2⟩ := below n hnp _ (.inr ⟨q0.2, rfl⟩)
            rw [b1] at hn
            rw [b2]
            exact ih.some_ n p hn
          · rw [lastP_snoc_ge (by omega)] at hn
            cases hn
            rw [hq0]
            exact ⟨_, lastP_snoc_ge (by dsimp only; omega), rfl⟩
theorem chainF_len (al bl : List Pr) : ∀ k, (chainF (al.take k) bl).length ≤ k
  | 0 => by simp [chainF]
  | k + 1 => by
    have ih := chainF_len al bl k
    cases hp : al[k]? with
    | none =>
      rw [List.take_add_one, hp]
      simp only [Option.toList_none, List.append_nil]
      omega
    | some p =>
      rw [chainF_succ hp]
      unfold chStep
      split
      · omega
      · split
        · omega
        · simp; omega
theorem chain_ok {a b : Trans} (ha : chkT a = 0) (hb : chkT b = 0) : chainM a b = (⟨max a.every b.every, chainF a.l b.l⟩, 0) := by
  unfold chainM
  rw [if_neg (by simp [ha]), if_neg (by simp [hb])]
theorem two {a b : Trans} {n : Int} (ha : chkT a = 0) (hb : chkT b = 0) : chkT (chainM a b).1 = 0 ∧
    (((toldM a true n).2 = false ∨ (toldM b true (toldM a true n).1).2 = false) → (toldM (chainM a b).1 true n).2 = false) ∧
    ((toldM a true n).2 = true → (toldM b true (toldM a true n).1).2 = true → toldM (chainM a b).1 true n = ((toldM b true (toldM a true n).1).1, true)) := by
  obtain ⟨a1, a2, a3⟩ := (chk0_iff a).1 ha
  obtain ⟨b1, b2, b3⟩ := (chk0_iff b).1 hb
  have hi := ch_inv a2 b2 a.l.length (Nat.le_refl _)
  have hl := chainF_len a.l b.l a.l.length
  rw [List.take_length] at hi hl
  rw [chain_ok ha hb]
  have hc : chkT ⟨max a.every b.every, chainF a.l b.l⟩ = 0 := by
    rw [chk0_iff]
    refine ⟨by dsimp only; omega, hi.good, ?_⟩
    simp [evO] at a3 b3 ⊢
    omega
  refine ⟨hc, ?_⟩
  dsimp only
  rw [toldM_good hc]
  dsimp only
  rw [toldM_good ha]
  cases h1 : lastP true a.l n with
  | none =>
    rw [hi.none_ n h1]
    exact ⟨fun _ => rfl, fun h => by cases h⟩
  | some p =>
    have h2 := hi.some_ n p h1
    simp only [Bool.not_true, sel, Bool.false_eq_true, if_false]
    rw [toldM_good hb]
    cases h3 : lastP true b.l p.2 with
    | none =>
      rw [h3] at h2
      dsimp only at h2
      rw [h2]
      exact ⟨fun _ => rfl, fun _ h => by cases h⟩
    | some q =>
      rw [h3] at h2
      obtain ⟨z, hz, hzq⟩ := h2
      rw [hz]
      refine ⟨fun h => ?_, fun _ _ => ?_⟩
      · rcases h with h | h <;> cases h
      · simp [sel, hzq]
end Go.Proofs.Ytbddbogdhkikoaa
