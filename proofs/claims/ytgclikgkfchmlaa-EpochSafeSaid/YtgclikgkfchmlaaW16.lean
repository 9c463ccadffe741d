/- Plain laws of epochs: what is put, cut and trimmed may be; cut and trimmed, whichever is done first. No condition. -/
import Derived.Test.YtgclikgkfchmlaaW15
set_option linter.unusedSimpArgs false
set_option linter.unusedVariables false
namespace Go.Proofs.Ytgclikgkfchmlaa
open Go Go.Kx

def Up (a b : Epo) : Prop := a.1 < b.1 ∧ a.2 < b.2
theorem chk_iff (l : List Epo) : chkN l = 0 ↔ (∀ x ∈ l, okE x = true) ∧ l.Pairwise Up := by
  constructor
  · intro h
    refine ⟨fun x hx => ?_, ?_⟩
    · obtain ⟨i, hi⟩ := List.getElem?_of_mem hx
      exact chk_ok h hi
    · rw [List.pairwise_iff_getElem]
      intro i j hi hj hij
      exact chk_mono h hij (List.getElem?_eq_getElem hi) (List.getElem?_eq_getElem hj)
  · rintro ⟨h1, h2⟩
    rw [chkN, if_pos]
    intro i x _ hx
    refine ⟨h1 x (List.mem_of_getElem? hx), fun p h0 hp => ?_⟩
    rw [List.pairwise_iff_getElem] at h2
    have hi := List.getElem?_eq_some_iff.1 hx
    have hj := List.getElem?_eq_some_iff.1 hp
    have := h2 (i - 1) i hj.1 hi.1 (by omega)
    rw [hi.2, hj.2] at this
    exact this
theorem cutM_ok (l : List Epo) (off : Int) : chkN (cutM l off) = 0 := by
  rw [chk_iff]
  by_cases h : chkN l = 0
  · have h' := (chk_iff l).1 h
    exact ⟨fun x hx => h'.1 x (List.mem_filter.1 hx).1, h'.2.sublist List.filter_sublist⟩
  · have : cutM l off = [] := by
      unfold cutM
      rw [List.filter_eq_nil_iff]
      intro x _
      simp [h]
    rw [this]
    exact ⟨fun x hx => by simp at hx, .nil⟩
theorem tf_some {l : List Epo} {st : Int} {i : Nat} {a : Epo} (h : tf l st i = some a) : ∃ x, l[i]? = some x ∧ a = (x.1, max x.2 st) ∧ ∀ y, l[i + 1]? = some y → st < y.2 := by
  unfold tf at h
  split at h
  · rename_i x hx hy
    cases h
    exact ⟨x, hx, rfl, fun y h => by rw [hy] at h; cases h⟩
  · rename_i x y hx hy
    split at h
    · rename_i hs
      cases h
      exact ⟨x, hx, rfl, fun z h => by rw [hy] at h; cases h; exact hs⟩
    · cases h
  · cases h
theorem trimM_ok (l : List Epo) (st : Int) : chkN (trimM l st) = 0 := by
  rw [chk_iff]
  unfold trimM
  split
  · rename_i h
    obtain ⟨h, hs⟩ := h
    have h' := (chk_iff l).1 h
    constructor
    · intro x hx
      obtain ⟨i, _, hi⟩ := List.mem_filterMap.1 hx
      obtain ⟨y, hy, rfl, _⟩ := tf_some hi
      have := h'.1 y (List.mem_of_getElem? hy)
      simp [okE, inO] at this hs ⊢
      omega
    · rw [List.pairwise_filterMap]
      refine List.pairwise_lt_range.imp ?_
      intro i k hik b hb b' hb'
      obtain ⟨x, hx, rfl, h1⟩ := tf_some hb
      obtain ⟨y, hy, rfl, _⟩ := tf_some hb'
      have h2 := chk_mono h hik hx hy
      obtain ⟨z, hz⟩ : ∃ z, l[i + 1]? = some z := ⟨l[i + 1]'(by have := (List.getElem?_eq_some_iff.1 hy).1; omega), List.getElem?_eq_getElem _⟩
      have h3 := h1 z hz
      have h4 : z.2 ≤ y.2 := by
        by_cases hk : i + 1 = k
        · subst hk; rw [hz] at hy; cases hy; omega
        · have := (chk_mono h (show i + 1 < k by omega) hz hy).2
          omega
      refine ⟨h2.1, ?_⟩
      show max x.2 st < max y.2 st
      omega
  · exact ⟨fun x hx => by simp at hx, .nil⟩
theorem puts_err {l : List Epo} {n s : Int} (h : (putM l n s).2 ≠ 0) : (putM l n s).1 = [] ∧ (chkN l ≠ 0 ∨ n < 0 ∨ 1048576 < n ∨ s < 0 ∨ 1099511627776 < s ∨ ∃ p, l[l.length - 1]? = some p ∧ (n < p.1 ∨ s < p.2)) := by
  by_cases h1 : chkN l ≠ 0 ∨ ¬ okE (n, s) = true
  · have e : putM l n s = ([], 1) := by rw [putM, if_pos h1]
    rw [e]
    refine ⟨rfl, ?_⟩
    rcases h1 with h1 | h1
    · exact .inl h1
    · simp [okE] at h1
      omega
  · have h2 : chkN l = 0 ∧ okE (n, s) = true := ⟨Classical.not_not.1 fun h => h1 (.inl h), Classical.not_not.1 fun h => h1 (.inr h)⟩
    have e := putM_eq h2.1 h2.2
    cases hp : l[l.length - 1]? with
    | none => rw [hp] at e; rw [e] at h; exact absurd rfl h
    | some p =>
      rw [hp] at e
      dsimp only at e
      split at e
      · rename_i h3; rw [e]; exact ⟨rfl, .inr (.inr (.inr (.inr (.inr ⟨p, rfl, .inl h3⟩))))⟩
      · split at e
        · rw [e] at h; exact absurd rfl h
        · split at e
          · rename_i h3; rw [e]; exact ⟨rfl, .inr (.inr (.inr (.inr (.inr ⟨p, rfl, .inr h3⟩))))⟩
          · split at e <;> (rw [e] at h; exact absurd rfl h)
theorem last_split {l : List Epo} {p : Epo} (hp : l[l.length - 1]? = some p) : ∃ l', l = l' ++ [p] := by
  have hl := (List.getElem?_eq_some_iff.1 hp).1
  have hne : l ≠ [] := fun e => by subst e; simp at hl
  refine ⟨l.dropLast, ?_⟩
  have := List.dropLast_concat_getLast hne
  rw [List.getLast_eq_getElem] at this
  rw [(List.getElem?_eq_some_iff.1 hp).2] at this
  exact this.symm
theorem puts_ok {l : List Epo} {n s : Int} (h : (putM l n s).2 = 0) : chkN (putM l n s).1 = 0 ∧ ∃ q, (putM l n s).1[(putM l n s).1.length - 1]? = some q ∧ q.1 = n ∧ (s < q.2 → l[l.length - 1]? = some q) := by
  by_cases h1 : chkN l ≠ 0 ∨ ¬ okE (n, s) = true
  · have e : putM l n s = ([], 1) := by rw [putM, if_pos h1]
    rw [e] at h
    cases h
  · have h2 : chkN l = 0 ∧ okE (n, s) = true := ⟨Classical.not_not.1 fun h => h1 (.inl h), Classical.not_not.1 fun h => h1 (.inr h)⟩
    have e := putM_eq h2.1 h2.2
    cases hp : l[l.length - 1]? with
    | none =>
      rw [hp] at e
      rw [e]
      refine ⟨?_, (n, s), rfl, rfl, fun h => ?_⟩
      · rw [chk_iff]
        exact ⟨fun x hx => by simp at hx; subst hx; exact h2.2, by simp⟩
      · dsimp only at h; omega
    | some p =>
      rw [hp] at e
      dsimp only at e
      obtain ⟨l', rfl⟩ := last_split hp
      have hpw := (chk_iff _).1 h2.1
      have hpa := List.pairwise_append.1 hpw.2
      split at e
      · rw [e] at h; cases h
      · split at e
        · rename_i h3 h4
          rw [e]
          exact ⟨h2.1, p, hp, h4.symm, fun _ => rfl⟩
        · split at e
          · rw [e] at h; cases h
          · rename_i h3 h4 h5
            split at e
            · rename_i h6
              have hset : (l' ++ [p]).set ((l' ++ [p]).length - 1) (n, s) = l' ++ [(n, s)] := by
                rw [List.length_append, List.length_singleton, Nat.add_sub_cancel, List.set_append_right _ _ (Nat.le_refl _), Nat.sub_self]
                rfl
              rw [hset] at e
              rw [e]
              refine ⟨?_, (n, s), by simp, rfl, fun h => by dsimp only at h; omega⟩
              rw [chk_iff]
              refine ⟨fun x hx => ?_, ?_⟩
              · rcases List.mem_append.1 hx with hx | hx
                · exact hpw.1 x (List.mem_append_left _ hx)
                · simp at hx; subst hx; exact h2.2
              · refine List.pairwise_append.2 ⟨hpa.1, by simp, fun a ha b hb => ?_⟩
                simp at hb
                subst hb
                have := hpa.2.2 a ha p (by simp)
                unfold Up at *
                dsimp only
                omega
            · rename_i h6
              rw [e]
              refine ⟨?_, (n, s), by simp, rfl, fun h => by dsimp only at h; omega⟩
              rw [chk_iff]
              refine ⟨fun x hx => ?_, ?_⟩
              · rcases List.mem_append.1 hx with hx | hx
                · exact hpw.1 x hx
                · simp at hx; subst hx; exact h2.2
              · refine List.pairwise_append.2 ⟨hpw.2, by simp, fun a ha b hb => ?_⟩
                simp at hb
                subst hb
                have hpn : p.1 < n ∧ p.2 < s := by omega
                rcases List.mem_append.1 ha with ha | ha
                · have := hpa.2.2 a ha p (by simp)
                  unfold Up at *
                  dsimp only
                  omega
                · simp at ha; subst ha; exact hpn

theorem trimM_bad {l : List Epo} {st : Int} (h : ¬ (chkN l = 0 ∧ inO st = true)) : trimM l st = [] := by rw [trimM, if_neg h]
theorem cutM_bad {l : List Epo} {off : Int} (h : ¬ chkN l = 0) : cutM l off = [] := by
  unfold cutM
  rw [List.filter_eq_nil_iff]
  intro x _
  simp [h]
theorem gone (l : List Epo) (st off : Int) (hs : inO st = true) (ho : st < off) : cutM (trimM l st) off = trimM (cutM l off) st := by
  by_cases h : chkN l = 0
  · obtain ⟨m, hm1, hm2⟩ := exists_min (fun m => ∀ x, l[m]? = some x → off ≤ x.2) ⟨l.length, fun x hx => by simp at hx⟩
    have hml : m ≤ l.length := by
      rcases Nat.lt_or_ge l.length m with h9 | h9
      · exact absurd (fun x hx => by simp at hx) (hm2 l.length h9)
      · exact h9
    have hlow : ∀ x, 0 < m → l[m - 1]? = some x → x.2 < off := fun x h0 hx => by
      have := hm2 (m - 1) (by omega)
      simp only [hx, Option.some.injEq, forall_eq'] at this
      omega
    have hct : cutM l off = l.take m := cutM_take h hml hm1 hlow
    have hin : ∀ i x, i < m → l[i]? = some x → x.2 < off := fun i x hi hx => by
      obtain ⟨y, hy⟩ : ∃ y, l[m - 1]? = some y := ⟨l[m - 1], List.getElem?_eq_getElem (by omega)⟩
      have := hlow y (by omega) hy
      by_cases him : i = m - 1
      · subst him; rw [hx] at hy; cases hy; exact this
      · have := (chk_mono h (show i < m - 1 by omega) hx hy).2
        omega
    have hout : ∀ i x, m ≤ i → l[i]? = some x → off ≤ x.2 := fun i x hi hx => by
      by_cases him : i = m
      · subst him; exact hm1 x hx
      · obtain ⟨y, hy⟩ : ∃ y, l[m]? = some y := ⟨l[m]'(by have := (List.getElem?_eq_some_iff.1 hx).1; omega), List.getElem?_eq_getElem _⟩
        have h1 := hm1 y hy
        have := (chk_mono h (show m < i by omega) hy hx).2
        omega
    have e1 : cutM (trimM l st) off = (trimM l st).filter (fun x => decide (x.2 < off)) := by
      have := trimM_ok l st
      unfold cutM
      simp [this]
    have hc' : chkN (l.take m) = 0 := by rw [← hct]; exact cutM_ok _ _
    rw [e1, hct, trimM, if_pos ⟨h, hs⟩, trimM, if_pos ⟨hc', hs⟩]
    obtain ⟨d, hd⟩ : ∃ d, l.length = m + d := ⟨l.length - m, by omega⟩
    rw [hd, List.range_add, List.filterMap_append, List.filter_append]
    have hlt : (l.take m).length = m := by simp; omega
    rw [hlt]
    have e2 : List.filter (fun x : Epo => decide (x.2 < off)) (((List.range d).map fun t => m + t).filterMap (tf l st)) = [] := by
      rw [List.filter_eq_nil_iff]
      intro a ha
      obtain ⟨i, hi, hti⟩ := List.mem_filterMap.1 ha
      obtain ⟨t, _, rfl⟩ := List.mem_map.1 hi
      obtain ⟨x, hx, rfl, _⟩ := tf_some hti
      have := hout _ x (by omega) hx
      simp
      omega
    have e3 : ((List.range m).filterMap (tf l st)).filter (fun x => decide (x.2 < off)) = (List.range m).filterMap (tf l st) := by
      rw [List.filter_eq_self]
      intro a ha
      obtain ⟨i, hi, hti⟩ := List.mem_filterMap.1 ha
      obtain ⟨x, hx, rfl, _⟩ := tf_some hti
      have := hin _ x (List.mem_range.1 hi) hx
      simp
      omega
    rw [e2, e3, List.append_nil]
    have e4 : ∀ (ns : List Nat), (∀ i ∈ ns, i < m) → ns.filterMap (tf l st) = ns.filterMap (tf (l.take m) st) := fun ns hns => by
      induction ns with
      | nil => rfl
      | cons i ns ih =>
        have him := hns i (.head _)
        have he : tf l st i = tf (l.take m) st i := by
          have hi1 : (l.take m)[i]? = l[i]? := by rw [List.getElem?_take, if_pos him]
          obtain ⟨x, hx⟩ : ∃ x, l[i]? = some x := ⟨l[i], List.getElem?_eq_getElem (by omega)⟩
          unfold tf
          rw [hi1, hx, List.getElem?_take]
          by_cases hi2 : i + 1 < m
          · rw [if_pos hi2]
          · rw [if_neg hi2]
            cases hy : l[i + 1]? with
            | none => rfl
            | some y =>
              have := hout (i + 1) y (by omega) hy
              simp only
              rw [if_pos (by omega)]
        rw [List.filterMap_cons, List.filterMap_cons, he, ih fun j hj => hns j (.tail _ hj)]
    exact e4 _ fun i hi => List.mem_range.1 hi
  · rw [trimM_bad (fun h9 => h h9.1), cutM_bad h]
    have : trimM [] st = [] := by
      unfold trimM
      split <;> rfl
    rw [this]
    rfl
end Go.Proofs.Ytgclikgkfchmlaa
