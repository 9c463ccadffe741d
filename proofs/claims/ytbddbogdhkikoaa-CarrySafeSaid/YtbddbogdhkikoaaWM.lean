/- Plain laws of translations. No condition. -/
import Derived.Test.YtbddbogdhkikoaaW1
set_option linter.unusedSimpArgs false
set_option linter.unusedVariables false
namespace Go.Proofs.Ytbddbogdhkikoaa
open Go Go.Kx

def Up (a b : Pr) : Prop := a.1 < b.1 ∧ a.2 < b.2
def inP (x : Pr) : Bool := inO x.1 && inO x.2
def Good (l : List Pr) : Prop := (∀ x ∈ l, inP x = true) ∧ l.Pairwise Up
theorem good_iff (l : List Pr) : GoodP l l.length ↔ Good l := by
  constructor
  · intro h
    refine ⟨fun x hx => ?_, ?_⟩
    · obtain ⟨i, hi⟩ := List.getElem?_of_mem hx
      have := (h i x (List.getElem?_eq_some_iff.1 hi).1 hi).1
      simp [inP, this]
    · have key : ∀ (k i : Nat) (x y : Pr), i < k → l[i]? = some x → l[k]? = some y → Up x y := fun k => by
        induction k with
        | zero => intro i x y hi; omega
        | succ k ih =>
          intro i x y hik hx hy
          have hlt := (List.getElem?_eq_some_iff.1 hy).1
          obtain ⟨z, hz⟩ : ∃ z, l[k]? = some z := ⟨l[k], List.getElem?_eq_getElem (by omega)⟩
          have h1 := (h (k + 1) y hlt hy).2 z (by omega) (by simpa using hz)
          by_cases hk : i = k
          · subst hk; rw [hx] at hz; cases hz; exact h1
          · have := ih i x z (by omega) hx hz
            unfold Up at *
            omega
      rw [List.pairwise_iff_getElem]
      intro i j hi hj hij
      exact key j i _ _ hij (List.getElem?_eq_getElem hi) (List.getElem?_eq_getElem hj)
  · rintro ⟨h1, h2⟩ i x hi hx
    have := h1 x (List.mem_of_getElem? hx)
    refine ⟨by simpa [inP] using this, fun p h0 hp => ?_⟩
    rw [List.pairwise_iff_getElem] at h2
    have hi := List.getElem?_eq_some_iff.1 hx
    have hj := List.getElem?_eq_some_iff.1 hp
    have := h2 (i - 1) i hj.1 hi.1 (by omega)
    rw [hi.2, hj.2] at this
    exact this
theorem chk0_iff (t : Trans) : chkT t = 0 ↔ t.l.length ≤ 4096 ∧ Good t.l ∧ evO t.every = true := by
  unfold chkT
  split
  · constructor
    · intro h; cases h
    · intro h; omega
  · split
    · rename_i h1 h2
      exact ⟨fun _ => ⟨by omega, (good_iff _).1 h2.1, h2.2⟩, fun _ => rfl⟩
    · rename_i h1 h2
      constructor
      · intro h; cases h
      · intro h; exact absurd ⟨(good_iff _).2 h.2.1, h.2.2⟩ h2
theorem chk_cases (t : Trans) : chkT t = 0 ∨ chkT t = 1 ∨ chkT t = 2 := by
  unfold chkT
  split
  · simp
  · split <;> simp

def sel (s : Bool) (x : Pr) : Int := if s then x.1 else x.2
def lastP (s : Bool) (l : List Pr) (n : Int) : Option Pr := (l.filter fun x => decide (sel s x ≤ n)).getLast?
noncomputable def toldM (t : Trans) (s : Bool) (n : Int) : Int × Bool :=
  if chkT t = 0 then match lastP s t.l n with
    | some x => (sel (!s) x, true)
    | none => (0, false)
  else (0, false)
theorem sel_lt {a b : Pr} (s : Bool) (h : Up a b) : sel s a < sel s b := by
  cases s <;> simp [sel, h.1, h.2]
theorem up_cases {l : List Pr} (h : l.Pairwise Up) {a b : Pr} (ha : a ∈ l) (hb : b ∈ l) : a = b ∨ Up a b ∨ Up b a := by
  obtain ⟨i, hi⟩ := List.getElem?_of_mem ha
  obtain ⟨k, hk⟩ := List.getElem?_of_mem hb
  rw [List.pairwise_iff_getElem] at h
  have e1 := List.getElem?_eq_some_iff.1 hi
  have e2 := List.getElem?_eq_some_iff.1 hk
  rcases Nat.lt_trichotomy i k with h1 | h1 | h1
  · have := h i k e1.1 e2.1 h1; rw [e1.2, e2.2] at this; exact .inr (.inl this)
  · subst h1; rw [hi] at hk; cases hk; exact .inl rfl
  · have := h k i e2.1 e1.1 h1; rw [e1.2, e2.2] at this; exact .inr (.inr this)
theorem sel_le {l : List Pr} (h : l.Pairwise Up) {a b : Pr} (ha : a ∈ l) (hb : b ∈ l) (s s' : Bool) (hs : sel s a ≤ sel s b) : sel s' a ≤ sel s' b := by
  rcases up_cases h ha hb with rfl | h1 | h1
  · omega
  · have := sel_lt s' h1; omega
  · have := sel_lt s h1; omega
theorem sel_inj {l : List Pr} (h : l.Pairwise Up) {a b : Pr} (ha : a ∈ l) (hb : b ∈ l) (s : Bool) (hs : sel s a = sel s b) : a = b := by
  rcases up_cases h ha hb with rfl | h1 | h1
  · rfl
  · have := sel_lt s h1; omega
  · have := sel_lt s h1; omega
theorem lastP_none {s : Bool} {l : List Pr} {n : Int} : lastP s l n = none ↔ ∀ y ∈ l, n < sel s y := by
  unfold lastP
  rw [List.getLast?_eq_none_iff, List.filter_eq_nil_iff]
  simp
theorem lastP_mem {s : Bool} {l : List Pr} {n : Int} {x : Pr} (h : lastP s l n = some x) : x ∈ l ∧ sel s x ≤ n := by
  have := List.mem_of_getLast? h
  simpa using List.mem_filter.1 this
theorem lastP_max {s : Bool} {l : List Pr} {n : Int} {x y : Pr} (hp : l.Pairwise Up) (h : lastP s l n = some x) (hy : y ∈ l) (hn : sel s y ≤ n) : sel s y ≤ sel s x := by
  unfold lastP at h
  obtain ⟨ys, hys⟩ := List.getLast?_eq_some_iff.1 h
  have hpf := hp.sublist (List.filter_sublist (p := fun x => decide (sel s x ≤ n)))
  have hm : y ∈ l.filter fun x => decide (sel s x ≤ n) := List.mem_filter.2 ⟨hy, by simpa using hn⟩
  rw [hys] at hpf hm
  rcases List.mem_append.1 hm with hm | hm
  · have := (List.pairwise_append.1 hpf).2.2 y hm x (by simp)
    have := sel_lt s this
    omega
  · simp at hm; subst hm; omega
theorem lastP_some {s : Bool} {l : List Pr} {n : Int} {x : Pr} (hp : l.Pairwise Up) (hx : x ∈ l) (h1 : sel s x ≤ n) (h2 : ∀ y ∈ l, sel s y ≤ n → sel s y ≤ sel s x) : lastP s l n = some x := by
  cases h : lastP s l n with
  | none => have := lastP_none.1 h x hx; omega
  | some z =>
    obtain ⟨hz, hzn⟩ := lastP_mem h
    have e1 := lastP_max hp h hx h1
    have e2 := h2 z hz hzn
    rw [sel_inj hp hx hz s (by omega)]
/-- As a search finds it. -/
theorem lastP_at {s : Bool} {l : List Pr} {n : Int} {j : Nat} (hp : l.Pairwise Up) (hj : j ≤ l.length) (h1 : ∀ x, l[j]? = some x → n < sel s x) (h2 : ∀ x, 0 < j → l[j - 1]? = some x → sel s x ≤ n) : lastP s l n = if j = 0 then none else l[j - 1]? := by
  have hp' := List.pairwise_iff_getElem.1 hp
  by_cases h0 : j = 0
  · subst h0
    rw [if_pos rfl, lastP_none]
    intro y hy
    obtain ⟨i, hi⟩ := List.getElem?_of_mem hy
    have e1 := List.getElem?_eq_some_iff.1 hi
    obtain ⟨z, hz⟩ : ∃ z, l[0]? = some z := ⟨l[0]'(by have := e1.1; omega), List.getElem?_eq_getElem _⟩
    have h3 := h1 z hz
    by_cases hi0 : i = 0
    · subst hi0; rw [hi] at hz; cases hz; exact h3
    · have e2 := List.getElem?_eq_some_iff.1 hz
      have := hp' 0 i e2.1 e1.1 (by omega)
      rw [e1.2, e2.2] at this
      have := sel_lt s this
      omega
  · rw [if_neg h0]
    obtain ⟨x, hx⟩ : ∃ x, l[j - 1]? = some x := ⟨l[j - 1], List.getElem?_eq_getElem (by omega)⟩
    rw [hx]
    refine lastP_some hp (List.mem_of_getElem? hx) (h2 x (by omega) hx) fun y hy hn => ?_
    obtain ⟨i, hi⟩ := List.getElem?_of_mem hy
    have e1 := List.getElem?_eq_some_iff.1 hi
    have e2 := List.getElem?_eq_some_iff.1 hx
    rcases Nat.lt_trichotomy i (j - 1) with hij | hij | hij
    · have := hp' i (j - 1) e1.1 e2.1 hij
      rw [e1.2, e2.2] at this
      have := sel_lt s this
      omega
    · subst hij; rw [hi] at hx; cases hx; omega
    · obtain ⟨z, hz⟩ : ∃ z, l[j]? = some z := ⟨l[j]'(by have := e1.1; omega), List.getElem?_eq_getElem _⟩
      have h3 := h1 z hz
      by_cases hij2 : i = j
      · subst hij2; rw [hi] at hz; cases hz; omega
      · have e3 := List.getElem?_eq_some_iff.1 hz
        have := hp' j i e3.1 e1.1 (by omega)
        rw [e1.2, e3.2] at this
        have := sel_lt s this
        omega
theorem toldM_good {t : Trans} (h : chkT t = 0) (s : Bool) (n : Int) : toldM t s n = match lastP s t.l n with
    | some x => (sel (!s) x, true)
    | none => (0, false) := if_pos h
theorem toldM_bad {t : Trans} (h : ¬ chkT t = 0) (s : Bool) (n : Int) : toldM t s n = (0, false) := if_neg h

/-- Further is translated to nothing less far. -/
theorem rises {t : Trans} {s : Bool} {a b : Int} (hab : a ≤ b) : (toldM t s a).2 = true → (toldM t s b).2 = true ∧ (toldM t s a).1 ≤ (toldM t s b).1 := by
  intro h
  by_cases hc : chkT t = 0
  · rw [toldM_good hc] at h ⊢
    rw [toldM_good hc]
    obtain ⟨_, ⟨_, hp⟩, _⟩ := (chk0_iff t).1 hc
    cases h1 : lastP s t.l a with
    | none => rw [h1] at h; cases h
    | some x =>
      obtain ⟨hx, hxa⟩ := lastP_mem h1
      cases h2 : lastP s t.l b with
      | none => have := lastP_none.1 h2 x hx; omega
      | some y =>
        obtain ⟨hy, hyb⟩ := lastP_mem h2
        have := lastP_max hp h2 hx (by omega)
        exact ⟨rfl, sel_le hp hx hy s (!s) this⟩
  · rw [toldM_bad hc] at h; cases h
theorem back {t : Trans} {n : Int} (h : (toldM t true n).2 = true) : (toldM t false (toldM t true n).1).2 = true ∧ (toldM t false (toldM t true n).1).1 ≤ n ∧
    (toldM t true (toldM t false (toldM t true n).1).1).2 = true ∧ (toldM t true (toldM t false (toldM t true n).1).1).1 = (toldM t true n).1 := by
  by_cases hc : chkT t = 0
  · rw [toldM_good hc] at h
    obtain ⟨_, ⟨_, hp⟩, _⟩ := (chk0_iff t).1 hc
    cases h1 : lastP true t.l n with
    | none => rw [h1] at h; cases h
    | some x =>
      obtain ⟨hx, hxa⟩ := lastP_mem h1
      have h2 : lastP false t.l x.2 = some x := lastP_some hp hx (by simp [sel]) (by simp [sel])
      have h3 : lastP true t.l x.1 = some x := lastP_some hp hx (by simp [sel]) (by simp [sel])
      have e1 : toldM t true n = (x.2, true) := by rw [toldM_good hc, h1]; rfl
      have e2 : toldM t false x.2 = (x.1, true) := by rw [toldM_good hc, h2]; rfl
      have e3 : toldM t true x.1 = (x.2, true) := by rw [toldM_good hc, h3]; rfl
      rw [e1, e2, e3]
      simp [sel] at hxa ⊢
      exact hxa
  · rw [toldM_bad hc] at h; cases h
theorem told_false {t : Trans} {s : Bool} {n : Int} (h : (toldM t s n).2 = false) : (toldM t s n).1 = 0 := by
  unfold toldM at *
  split at h
  · rename_i hc
    rw [if_pos hc]
    split at h
    · cases h
    · rfl
  · rename_i hc
    rw [if_neg hc]

/-! ### A pair more -/
noncomputable def addM (t : Trans) (s d : Int) : Trans × Int :=
  if chkT t ≠ 0 then (⟨0, []⟩, chkT t) else
  if ¬ (inO s = true ∧ inO d = true) then (⟨0, []⟩, 1) else
  match t.l.getLast? with
  | none => (⟨t.every, t.l ++ [(s, d)]⟩, 0)
  | some p => if s < p.1 ∨ d < p.2 then (⟨0, []⟩, 71) else if s - p.1 < t.every ∨ d = p.2 then (t, 0) else if 4096 ≤ t.l.length then (⟨0, []⟩, 2) else (⟨t.every, t.l ++ [(s, d)]⟩, 0)
theorem addM_err {t : Trans} {s d : Int} (h : (addM t s d).2 ≠ 0) : (addM t s d).1.l = [] := by
  unfold addM at *
  split
  · rfl
  · rename_i h1
    rw [if_neg h1] at h
    split
    · rfl
    · rename_i h2
      rw [if_neg h2] at h
      split
      · rename_i h3; rw [h3] at h; exact absurd rfl h
      · rename_i p h3
        rw [h3] at h
        dsimp only at h
        split
        · rfl
        · rename_i h4
          rw [if_neg h4] at h
          split
          · rename_i h5; rw [if_pos h5] at h; exact absurd rfl h
          · rename_i h5
            rw [if_neg h5] at h
            split
            · rfl
            · rename_i h6; rw [if_neg h6] at h; exact absurd rfl h
/-- What a pair more does, if it is taken. -/
theorem addM_ok {t : Trans} {s d : Int} (h : (addM t s d).2 = 0) : chkT t = 0 ∧ (inO s = true ∧ inO d = true) ∧
    ((addM t s d).1 = t ∧ (∃ p, t.l.getLast? = some p ∧ p.1 ≤ s ∧ p.2 ≤ d ∧ (s - p.1 < t.every ∨ d = p.2)) ∨
     (addM t s d).1 = ⟨t.every, t.l ++ [(s, d)]⟩ ∧ t.l.length < 4096 ∧ (∀ p, t.l.getLast? = some p → p.1 < s ∧ p.2 < d ∧ t.every ≤ s - p.1)) := by
  unfold addM at *
  split at h
  · rename_i h1; exact absurd h h1
  · rename_i h1
    rw [if_neg h1]
    have h1 : chkT t = 0 := Classical.not_not.1 h1
    obtain ⟨hl, hg, hev⟩ := (chk0_iff t).1 h1
    split at h
    · cases h
    · rename_i h2
      rw [if_neg h2]
      have h2 := Classical.not_not.1 h2
      refine ⟨h1, h2, ?_⟩
      split at h
      · rename_i h3
        rw [h3]
        refine .inr ⟨rfl, ?_, fun p hp => by cases hp⟩
        rw [List.getLast?_eq_none_iff] at h3
        rw [h3]; simp
      · rename_i p h3
        rw [h3]
        (try dsimp only)
        split at h
        · cases h
        · rename_i h4
          (try dsimp only)
          rw [if_neg h4]
          split at h
          · rename_i h5
            rw [if_pos h5]
            exact .inl ⟨rfl, p, rfl, by omega, by omega, h5⟩
          · rename_i h5
            rw [if_neg h5]
            split at h
            · cases h
            · rename_i h6
              rw [if_neg h6]
              refine .inr ⟨rfl, by omega, fun q hq => ?_⟩
              cases hq
              simp [evO] at hev
              omega
theorem good_app {l : List Pr} {s d : Int} (hg : Good l) (hi : inO s = true ∧ inO d = true) (hl : ∀ p, l.getLast? = some p → p.1 < s ∧ p.2 < d) : Good (l ++ [(s, d)]) := by
  refine ⟨fun x hx => ?_, List.pairwise_append.2 ⟨hg.2, by simp, fun a ha b hb => ?_⟩⟩
  · rcases List.mem_append.1 hx with hx | hx
    · exact hg.1 x hx
    · simp at hx; subst hx; simp [inP, hi]
  · simp at hb
    subst hb
    have hne : l ≠ [] := fun e => by subst e; cases ha
    obtain ⟨p, hp⟩ : ∃ p, l.getLast? = some p := ⟨_, List.getLast?_eq_some_getLast hne⟩
    have h1 := hl p hp
    obtain ⟨ys, rfl⟩ := List.getLast?_eq_some_iff.1 hp
    rcases List.mem_append.1 ha with ha | ha
    · have := (List.pairwise_append.1 hg.2).2.2 a ha p (by simp)
      unfold Up at *
      dsimp only
      omega
    · simp at ha; subst ha; exact h1
theorem chk_app {t : Trans} {s d : Int} (h : chkT t = 0) (hi : inO s = true ∧ inO d = true) (hlen : t.l.length < 4096) (hl : ∀ p, t.l.getLast? = some p → p.1 < s ∧ p.2 < d) : chkT ⟨t.every, t.l ++ [(s, d)]⟩ = 0 := by
  obtain ⟨h1, h2, h3⟩ := (chk0_iff t).1 h
  rw [chk0_iff]
  exact ⟨by simp; omega, good_app h2 hi hl, h3⟩
theorem last_max {l : List Pr} (hp : l.Pairwise Up) {p x : Pr} (h : l.getLast? = some p) (hx : x ∈ l) (s : Bool) : sel s x ≤ sel s p := by
  obtain ⟨ys, rfl⟩ := List.getLast?_eq_some_iff.1 h
  rcases List.mem_append.1 hx with hx | hx
  · have := sel_lt s ((List.pairwise_append.1 hp).2.2 x hx p (by simp)); omega
  · simp at hx; subst hx; omega
/-- Nothing ahead of it changes. -/
theorem goes_below {t : Trans} {s d n : Int} (h : (addM t s d).2 = 0) (hn : n < s) : toldM (addM t s d).1 true n = toldM t true n := by
  obtain ⟨h1, h2, ⟨h3, _⟩ | ⟨h3, h4, h5⟩⟩ := addM_ok h
  · rw [h3]
  · rw [h3]
    have hc := chk_app h1 h2 h4 fun p hp => ⟨(h5 p hp).1, (h5 p hp).2.1⟩
    rw [toldM_good hc, toldM_good h1]
    have : lastP true (t.l ++ [(s, d)]) n = lastP true t.l n := by
      unfold lastP
      rw [List.filter_append]
      have e1 : List.filter (fun x => decide (sel true x ≤ n)) [(s, d)] = [] := by
        rw [List.filter_eq_nil_iff]
        intro x hx
        simp at hx
        subst hx
        simp [sel]
        omega
      rw [e1, List.append_nil]
    dsimp only
    rw [this]
theorem goes_above {t : Trans} {s d n : Int} (h : (addM t s d).2 = 0) (hn : s ≤ n) : chkT (addM t s d).1 = 0 ∧ (toldM (addM t s d).1 true n).2 = true ∧ (toldM t true n).1 ≤ (toldM (addM t s d).1 true n).1 ∧ (toldM (addM t s d).1 true n).1 ≤ d ∧
    ((toldM t true n).2 = false ∨ (toldM (addM t s d).1 true n).1 = (toldM t true n).1 ∨ (toldM (addM t s d).1 true n).1 = d) := by
  obtain ⟨h1, h2, ⟨h3, p, hp, h4, h5, h6⟩ | ⟨h3, h4, h5⟩⟩ := addM_ok h
  · obtain ⟨hl, hg, hev⟩ := (chk0_iff t).1 h1
    rw [h3]
    have hpm := List.mem_of_getLast? hp
    have : lastP true t.l n = some p := lastP_some hg.2 hpm (by simp [sel]; omega) fun y hy _ => last_max hg.2 hp hy true
    rw [toldM_good h1, this]
    refine ⟨h1, rfl, by simp, ?_, .inr (.inl rfl)⟩
    simpa [sel] using h5
  · obtain ⟨hl, hg, hev⟩ := (chk0_iff t).1 h1
    have hc := chk_app h1 h2 h4 fun p hp => ⟨(h5 p hp).1, (h5 p hp).2.1⟩
    have hgc := good_app hg h2 fun p hp => ⟨(h5 p hp).1, (h5 p hp).2.1⟩
    rw [h3]
    have : lastP true (t.l ++ [(s, d)]) n = some (s, d) := lastP_some hgc.2 (by simp) (by simpa [sel] using hn) fun y hy _ => last_max hgc.2 (by simp) hy true
    rw [toldM_good hc]
    dsimp only
    rw [this]
    refine ⟨hc, rfl, ?_, by simp [sel], .inr (.inr (by simp [sel]))⟩
    rw [toldM_good h1]
    cases hx : lastP true t.l n with
    | none => simp [inO] at h2; simp [sel]; omega
    | some x =>
      obtain ⟨hxm, _⟩ := lastP_mem hx
      have hne : t.l ≠ [] := fun e => by rw [e] at hxm; cases hxm
      obtain ⟨q, hq⟩ : ∃ q, t.l.getLast? = some q := ⟨_, List.getLast?_eq_some_getLast hne⟩
      have e1 := last_max hg.2 hq hxm false
      have e2 := h5 q hq
      simp [sel] at e1 ⊢
      omega

/-! ### What is left -/
/-- The place of the last one that is at most there; 0, if there is none. -/
def lastI (l : List Pr) (n : Int) : Nat := (l.filter fun x => decide (x.1 ≤ n)).length - 1
noncomputable def trimT (t : Trans) (n : Int) : Trans := if chkT t = 0 then ⟨t.every, t.l.drop (lastI t.l n)⟩ else ⟨0, []⟩
end Go.Proofs.Ytbddbogdhkikoaa
