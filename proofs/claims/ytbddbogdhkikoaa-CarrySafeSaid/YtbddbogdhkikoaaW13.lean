/- What the statements of the chapter on translations compute, part 4 of a proof: the stage's, the law. No condition. -/
import Derived.Test.YtbddbogdhkikoaaW10
set_option linter.unusedSimpArgs false
set_option linter.unusedVariables false
namespace Go.Proofs.Ytbddbogdhkikoaa
open Go Go.Kx
/-- Pairs that may be put, one behind the other. -/
def Row (sl dl : List Int) (k : Nat) : Prop := ∀ (i : Nat) (s d : Int), i < k → sl[i]? = some s → dl[i]? = some d → (0 ≤ s ∧ 0 ≤ d ∧ s ≤ 1099511627776 ∧ d ≤ 1099511627776) ∧
  ∀ (s' d' : Int), 0 < i → sl[i - 1]? = some s' → dl[i - 1]? = some d' → s' < s ∧ d' < d
theorem row_lt {sl dl : List Int} {k : Nat} (h : Row sl dl k) (hl : sl.length = dl.length) : ∀ (j : Nat) {i : Nat} {s d s' d' : Int}, i < j → j < k → sl[i]? = some s → dl[i]? = some d → sl[j]? = some s' → dl[j]? = some d' → s < s' ∧ d < d' := by
  intro j
  induction j with
  | zero => intro i _ _ _ _ h0; omega
  | succ j ih =>
    intro i s d s' d' hij hj h1 h2 h3 h4
    have hlt := (List.getElem?_eq_some_iff.1 h3).1
    obtain ⟨u, hu⟩ : ∃ u, sl[j]? = some u := ⟨sl[j], List.getElem?_eq_getElem (by omega)⟩
    obtain ⟨w, hw⟩ : ∃ w, dl[j]? = some w := ⟨dl[j], List.getElem?_eq_getElem (by omega)⟩
    have e1 := (h (j + 1) s' d' hj h3 h4).2 u w (by omega) hu hw
    by_cases he : i = j
    · subst he
      rw [h1] at hu; rw [h2] at hw
      cases hu; cases hw
      exact e1
    · have e2 := ih (by omega) (by omega) h1 h2 hu hw
      omega
/-- What a translation made of a row is. -/
def Made (every : Int) (sl dl : List Int) (k : Nat) (t : Trans) : Prop :=
  t.every = every ∧ chkT t = 0 ∧ t.l.length ≤ k ∧ (∀ p ∈ t.l, ∃ j, j < k ∧ sl[j]? = some p.1 ∧ dl[j]? = some p.2) ∧
    ∀ (j : Nat) (s : Int), j < k → sl[j]? = some s → ∃ p ∈ t.l, p.1 ≤ s ∧ s - p.1 < every
theorem made_zero {every : Int} (h : evO every = true) (sl dl : List Int) : Made every sl dl 0 ⟨every, []⟩ :=
  ⟨rfl, (chk0_iff _).2 ⟨by simp, ⟨by simp, by simp⟩, h⟩, by simp, by simp, fun j s hj => by omega⟩
theorem made_succ {every : Int} {sl dl : List Int} {k : Nat} {t : Trans} {s d : Int} (he : evO every = true) (hl : sl.length = dl.length) (hk : k ≤ 4000) (hm : Made every sl dl k t) (hr : Row sl dl (k + 1)) (hs : sl[k]? = some s) (hd : dl[k]? = some d) :
    (addM t s d).2 = 0 ∧ Made every sl dl (k + 1) (addM t s d).1 := by
  obtain ⟨m1, m2, m3, m4, m5⟩ := hm
  have hsd := (hr k s d (by omega) hs hd).1
  have hin : inO s = true ∧ inO d = true := by simp [inO]; omega
  have hev : 1 ≤ every := by simp [evO] at he; omega
  have hlt : ∀ p ∈ t.l, p.1 < s ∧ p.2 < d := fun p hp => by
    obtain ⟨j, hj, h1, h2⟩ := m4 p hp
    exact row_lt hr hl k hj (by omega) h1 h2 hs hd
  have happ : Made every sl dl (k + 1) ⟨t.every, t.l ++ [(s, d)]⟩ := by
    refine ⟨m1, chk_app m2 hin (by omega) (fun p hp => hlt p (List.mem_of_getLast? hp)), by simp; omega, fun p hp => ?_, fun j u hj hu => ?_⟩
    · simp at hp
      rcases hp with hp | rfl
      · obtain ⟨j, hj, h1, h2⟩ := m4 p hp; exact ⟨j, by omega, h1, h2⟩
      · exact ⟨k, by omega, hs, hd⟩
    · by_cases hjk : j < k
      · obtain ⟨p, hp, h1, h2⟩ := m5 j u hjk hu
        exact ⟨p, by simp [hp], h1, h2⟩
      · have : j = k := by omega
        subst this
        rw [hs] at hu; cases hu
        exact ⟨(s, d), by simp, by simp, by simp; omega⟩
  rw [addM, if_neg (by simp [m2]), if_neg (by simp [hin])]
  cases hlast : t.l.getLast? with
  | none => exact ⟨rfl, happ⟩
  | some p =>
    have hp := List.mem_of_getLast? hlast
    have h1 := hlt p hp
    dsimp only
    rw [if_neg (by omega)]
    by_cases h2 : s - p.1 < t.every ∨ d = p.2
    · rw [if_pos h2]
      refine ⟨rfl, m1, m2, by dsimp only; omega, fun q hq => ?_, fun j u hj hu => ?_⟩
      · obtain ⟨j, hj, h1, h2⟩ := m4 q hq; exact ⟨j, by omega, h1, h2⟩
      · by_cases hjk : j < k
        · exact m5 j u hjk hu
        · have : j = k := by omega
          subst this
          rw [hs] at hu; cases hu
          exact ⟨p, hp, by omega, by omega⟩
    · rw [if_neg h2, if_neg (by omega)]
      exact ⟨rfl, happ⟩
/-- The last one that is not ahead. -/
def Seen (sl dl : List Int) (n : Int) (k : Nat) (la dn : Int) : Prop :=
  (la = -1 ∧ ∀ (j : Nat) (s : Int), j < k → sl[j]? = some s → n < s) ∨ ∃ m, m < k ∧ sl[m]? = some la ∧ dl[m]? = some dn ∧ la ≤ n ∧ ∀ (j : Nat) (s : Int), m < j → j < k → sl[j]? = some s → n < s
theorem seen_yes {sl dl : List Int} {n : Int} {k : Nat} {s d : Int} (hs : sl[k]? = some s) (hd : dl[k]? = some d) (h : s ≤ n) : Seen sl dl n (k + 1) s d := .inr ⟨k, by omega, hs, hd, h, fun j u h1 h2 => by omega⟩
theorem seen_no {sl dl : List Int} {n la dn : Int} {k : Nat} {s : Int} (hs : sl[k]? = some s) (h : n < s) (hk : Seen sl dl n k la dn) : Seen sl dl n (k + 1) la dn := by
  have key : ∀ (j : Nat) (u : Int), j < k + 1 → ¬ j < k → sl[j]? = some u → n < u := fun j u h1 h2 hu => by
    have : j = k := by omega
    subst this; rw [hs] at hu; cases hu; exact h
  rcases hk with ⟨h1, h2⟩ | ⟨m, h1, h2, h3, h4, h5⟩
  · exact .inl ⟨h1, fun j u hj hu => if hjk : j < k then h2 j u hjk hu else key j u hj hjk hu⟩
  · exact .inr ⟨m, by omega, h2, h3, h4, fun j u hmj hj hu => if hjk : j < k then h5 j u hmj hjk hu else key j u hj hjk hu⟩
/-- What a row's translation tells. -/
theorem told {every : Int} {sl dl : List Int} {k : Nat} {t : Trans} {n la dn : Int} (hl : sl.length = dl.length) (hk : k ≤ sl.length) (hm : Made every sl dl k t) (hr : Row sl dl k) (hs : Seen sl dl n k la dn) :
    ((toldM t true n).2 = false → la = -1) ∧ ((toldM t true n).2 = true → (toldM t true n).1 ≤ dn ∧ ∃ (j : Nat) (s : Int), j < k ∧ sl[j]? = some s ∧ dl[j]? = some (toldM t true n).1 ∧ la - s < every ∧ ∀ (i : Nat) (d : Int), i < k → dl[i]? = some d → d = (toldM t true n).1 → i = j) := by
  obtain ⟨m1, m2, m3, m4, m5⟩ := hm
  obtain ⟨-, hg, -⟩ := (chk0_iff t).1 m2
  rw [toldM_good m2]
  cases hq : lastP true t.l n with
  | none =>
    refine ⟨fun _ => ?_, fun h => by cases h⟩
    have hno := lastP_none.1 hq
    rcases hs with ⟨h1, -⟩ | ⟨m, h1, h2, h3, h4, -⟩
    · exact h1
    · obtain ⟨p, hp, h5, h6⟩ := m5 m la h1 h2
      have := hno p hp
      simp [sel] at this
      omega
  | some q =>
    refine ⟨fun h => (by cases h), fun _ => ?_⟩
    obtain ⟨hqm, hqn⟩ := lastP_mem hq
    obtain ⟨j, hj, hj1, hj2⟩ := m4 q hqm
    have e1 : sel (!true) q = q.2 := rfl
    have e2 : sel true q = q.1 := rfl
    rw [e2] at hqn
    dsimp only
    rw [e1]
    have hinj : ∀ (i : Nat) (d : Int), i < k → dl[i]? = some d → d = q.2 → i = j := fun i d hi hd he => by
      obtain ⟨s, hs⟩ : ∃ s, sl[i]? = some s := ⟨sl[i], List.getElem?_eq_getElem (by omega)⟩
      rcases Nat.lt_trichotomy i j with h | h | h
      · have := row_lt hr hl j h hj hs hd hj1 hj2; omega
      · exact h
      · have := row_lt hr hl i h hi hj1 hj2 hs hd; omega
    rcases hs with ⟨-, h1⟩ | ⟨m, h1, h2, h3, h4, h5⟩
    · have := h1 j _ hj hj1; omega
    · have hjm : j ≤ m := by
        by_cases h : m < j
        · have := h5 j _ h hj hj1; omega
        · omega
      refine ⟨?_, j, q.1, hj, hj1, hj2, ?_, fun i d h1 h2 h3 => hinj i d h1 h2 h3⟩
      · by_cases h : j = m
        · subst h; rw [hj2] at h3; cases h3; omega
        · have := row_lt hr hl m (by omega) h1 hj1 hj2 h2 h3; omega
      · obtain ⟨p, hp, h6, h7⟩ := m5 m la h1 h2
        have := lastP_max hg.2 hq hp (by simp [sel]; omega)
        simp [sel] at this
        omega
end Go.Proofs.Ytbddbogdhkikoaa
