/- What the statements of the chapter on epochs compute, part 8 of a proof: two logs that part. No condition. -/
import Derived.Test.YtgclikgkfchmlaaW21
set_option linter.unusedSimpArgs false
set_option linter.unusedVariables false
namespace Go.Proofs.Ytgclikgkfchmlaa
open Go Go.Kx
/-- A batch of one offset: where it stands, and its epoch. -/
abbrev LB := Int × Int
def toB (x : LB) : Batch := ⟨x.1, x.1, 0, x.2, -1, 0, 0, false, 0, []⟩
def lev (fr by_ : Int) (l : List Int) : Int := fr + by_ * (l.map (· % 3)).sum
def logM (st fr by_ : Int) (l : List Int) : List LB := (List.range l.length).map fun (i : Nat) => (st + (i : Int), lev fr by_ (l.take (i + 1)))
theorem logM_len (st fr by_ : Int) (l : List Int) : (logM st fr by_ l).length = l.length := by simp [logM]
theorem logM_at {st fr by_ : Int} {l : List Int} {i : Nat} {x : LB} (h : (logM st fr by_ l)[i]? = some x) : i < l.length ∧ x = (st + i, lev fr by_ (l.take (i + 1))) := by
  have hi := (List.getElem?_eq_some_iff.1 h).1
  rw [logM_len] at hi
  refine ⟨hi, ?_⟩
  unfold logM at h
  rw [List.getElem?_map, List.getElem?_range hi] at h
  cases h; rfl
theorem lev_succ {fr by_ : Int} {l : List Int} {k : Nat} {x : Int} (hx : l[k]? = some x) : lev fr by_ (l.take (k + 1)) = lev fr by_ (l.take k) + by_ * (x % 3) := by
  have hk := (List.getElem?_eq_some_iff.1 hx)
  have e : l.take (k + 1) = l.take k ++ [x] := by rw [List.take_succ_eq_append_getElem hk.1, hk.2]
  unfold lev
  rw [e]
  simp [Int.mul_add]
  omega
theorem logM_succ {st fr by_ : Int} {l : List Int} {k : Nat} {x : Int} (hx : l[k]? = some x) : logM st fr by_ (l.take (k + 1)) = logM st fr by_ (l.take k) ++ [(st + k, lev fr by_ (l.take (k + 1)))] := by
  have hk := (List.getElem?_eq_some_iff.1 hx).1
  have hl : (l.take (k + 1)).length = k + 1 := by simp; omega
  have hl' : (l.take k).length = k := by simp; omega
  unfold logM
  rw [hl, hl', List.range_succ, List.map_append]
  congr 1
  · refine List.map_congr_left fun i hi => ?_
    have : i < k := List.mem_range.1 hi
    rw [List.take_take, List.take_take, Nat.min_eq_left (by omega), Nat.min_eq_left (by omega)]
  · simp [List.take_take]
theorem lev_mono (fr by_ : Int) (hb : 0 ≤ by_) (l : List Int) : ∀ k j : Nat, k ≤ j → lev fr by_ (l.take k) ≤ lev fr by_ (l.take j) := by
  intro k j hkj
  induction j with
  | zero => have : k = 0 := by omega
            subst this; exact Int.le_refl _
  | succ j ih =>
    by_cases he : k = j + 1
    · subst he; exact Int.le_refl _
    · have := ih (by omega)
      by_cases hj : j < l.length
      · rw [lev_succ (List.getElem?_eq_getElem hj)]
        have : 0 ≤ by_ * (l[j] % 3) := Int.mul_nonneg hb (by omega)
        omega
      · rw [List.take_of_length_le (i := j + 1) (by omega)]
        rw [List.take_of_length_le (i := j) (by omega)] at this
        exact this
theorem lev_zero (fr by_ : Int) (l : List Int) : lev fr by_ (l.take 0) = fr := by simp [lev]
theorem lev_ge (fr by_ : Int) (hb : 0 ≤ by_) (l : List Int) (k : Nat) : fr ≤ lev fr by_ (l.take k) := by
  have := lev_mono fr by_ hb l 0 k (by omega)
  rwa [lev_zero] at this
theorem lev_le (fr by_ : Int) (h0 : 0 ≤ by_) (hb : by_ ≤ 2) (l : List Int) : ∀ k : Nat, lev fr by_ (l.take k) ≤ fr + 4 * k := by
  intro k
  induction k with
  | zero => rw [lev_zero]; omega
  | succ k ih =>
    by_cases hj : k < l.length
    · rw [lev_succ (List.getElem?_eq_getElem hj)]
      have : by_ * (l[k] % 3) ≤ 2 * 2 := Int.mul_le_mul hb (by omega) (by omega) (by omega)
      omega
    · rw [List.take_of_length_le (i := k + 1) (by omega)]
      rw [List.take_of_length_le (i := k) (by omega)] at ih
      omega
theorem lev_par (fr : Int) (l : List Int) : ∀ k : Nat, lev fr 2 (l.take k) % 2 = fr % 2 := by
  intro k
  unfold lev
  omega
/-- A log: batches from 0 on, whose epochs do not fall. -/
def Inc (l : List LB) : Prop := l.length ≤ 1000 ∧ ∀ (i : Nat) (x : LB), l[i]? = some x → x.1 = i ∧ (0 ≤ x.2 ∧ x.2 ≤ 1048576) ∧ ∀ (j : Nat) (y : LB), i ≤ j → l[j]? = some y → x.2 ≤ y.2
/-- Where epochs begin and end in a log. -/
def Tab (l : List LB) (z : List Epo) : Prop := chkN z = 0 ∧ (∀ (i : Nat) (x : LB), l[i]? = some x → ∃ (j : Nat) (e : Epo), z[j]? = some e ∧ e.1 = x.2 ∧ e.2 ≤ i ∧ (i : Int) < endp z j l.length) ∧
  ∀ (j : Nat) (e : Epo), z[j]? = some e → ∃ (i : Nat) (x : LB), l[i]? = some x ∧ e.2 = i ∧ e.1 = x.2
theorem tab_nil : Tab [] [] := ⟨by rw [chk_iff]; simp, by simp, by simp⟩
theorem tab_snoc {l : List LB} {z : List Epo} {x : LB} (hi : Inc (l ++ [x])) (ht : Tab l z) : (putM z x.2 x.1).2 = 0 ∧ Tab (l ++ [x]) (putM z x.2 x.1).1 := by
  obtain ⟨h1, h2, h3⟩ := ht
  have hx : (l ++ [x])[l.length]? = some x := by simp
  obtain ⟨e1, ⟨e2, e3⟩, -⟩ := hi.2 _ _ hx
  have hlen := hi.1
  simp at hlen
  have hok : okE (x.2, x.1) = true := by simp [okE]; omega
  have hput := putM_eq h1 hok
  rcases List.eq_nil_or_concat l with rfl | ⟨l', y, rfl⟩
  · have hz : z = [] := by
      cases z with
      | nil => rfl
      | cons e z => obtain ⟨i, w, hw, -⟩ := h3 0 e rfl; simp at hw
    subst hz
    have e : putM [] x.2 x.1 = ([(x.2, x.1)], 0) := by rw [hput]; rfl
    rw [e]
    refine ⟨rfl, ?_, fun i w hw => ?_, fun j w hw => ?_⟩
    · rw [chk_iff]; simpa using hok
    · match i, hw with
      | 0, hw => cases hw; exact ⟨0, _, rfl, rfl, by simp at e1; simp; omega, by simp [endp]⟩
    · match j, hw with
      | 0, hw => cases hw; exact ⟨0, x, rfl, by simp at e1; simp; omega, rfl⟩
  · have hy : (l' ++ [y])[l'.length]? = some y := by simp
    have hll : (l' ++ [y]).length = l'.length + 1 := by simp
    rw [List.concat_eq_append] at *
    obtain ⟨j, e, he, he1, he2, he3⟩ := h2 _ _ hy
    have hjl := (List.getElem?_eq_some_iff.1 he).1
    obtain ⟨p, hp⟩ : ∃ p, z[z.length - 1]? = some p := ⟨z[z.length - 1], List.getElem?_eq_getElem (by omega)⟩
    obtain ⟨i', w, hw, hp2, hp1⟩ := h3 _ _ hp
    have hi' := (List.getElem?_eq_some_iff.1 hw).1
    have hle : ∀ (i : Nat) (w : LB), (l' ++ [y])[i]? = some w → w.2 ≤ y.2 := fun i w hw => by
      have hl := (List.getElem?_eq_some_iff.1 hw).1
      refine (hi.2 i w (by rw [List.getElem?_append_left hl]; exact hw)).2.2 l'.length y (by omega) (by rw [List.getElem?_append_left (by omega)]; exact hy)
    have hyx : y.2 ≤ x.2 := (hi.2 l'.length y (by rw [List.getElem?_append_left (by omega)]; exact hy)).2.2 _ _ (by omega) hx
    have hpy : p.1 = y.2 ∧ j = z.length - 1 := by
      have := hle _ _ hw
      by_cases hj : j = z.length - 1
      · subst hj; rw [he] at hp; cases hp; exact ⟨he1, rfl⟩
      · have := (chk_mono h1 (show j < z.length - 1 by omega) he hp).1
        omega
    obtain ⟨hpy, rfl⟩ := hpy
    rw [he] at hp
    cases hp
    rw [he] at hput
    dsimp only at hput
    rw [hll] at hlen e1 hi' he3 hx
    by_cases hs : x.2 = e.1
    · rw [if_neg (by omega), if_pos hs] at hput
      rw [hput]
      refine ⟨rfl, h1, fun i w hw => ?_, fun j w hw => ?_⟩
      · by_cases hil : i < l'.length + 1
        · rw [List.getElem?_append_left (by omega)] at hw
          obtain ⟨j, f, hf, hf1, hf2, hf3⟩ := h2 _ _ hw
          refine ⟨j, f, hf, hf1, hf2, ?_⟩
          rw [hll] at hf3
          unfold endp at hf3 ⊢
          cases hz : z[j + 1]? with
          | none => simp; omega
          | some q => rw [hz] at hf3; exact hf3
        · have hil : i = l'.length + 1 := by
            have := (List.getElem?_eq_some_iff.1 hw).1
            simp at this; omega
          subst hil
          rw [hx] at hw
          cases hw
          refine ⟨_, e, he, hs.symm, by omega, ?_⟩
          unfold endp
          rw [List.getElem?_eq_none (by dsimp only; omega)]
          simp
      · obtain ⟨i, w', hw', hh⟩ := h3 _ _ hw
        exact ⟨i, w', by rw [List.getElem?_append_left (List.getElem?_eq_some_iff.1 hw').1]; exact hw', hh⟩
    · rw [if_neg (by omega), if_neg hs, if_neg (by omega), if_neg (by omega)] at hput
      have hc := (puts_ok (l := z) (n := x.2) (s := x.1) (by rw [hput])).1
      rw [hput] at hc ⊢
      refine ⟨rfl, hc, fun i w hw => ?_, fun j w hw => ?_⟩
      · by_cases hil : i < l'.length + 1
        · rw [List.getElem?_append_left (by omega)] at hw
          obtain ⟨j, f, hf, hf1, hf2, hf3⟩ := h2 _ _ hw
          have hjz := (List.getElem?_eq_some_iff.1 hf).1
          refine ⟨j, f, by rw [List.getElem?_append_left hjz]; exact hf, hf1, hf2, ?_⟩
          rw [hll] at hf3
          unfold endp at hf3 ⊢
          by_cases hj1 : j + 1 < z.length
          · rw [List.getElem?_append_left hj1]
            rw [List.getElem?_eq_getElem hj1] at hf3 ⊢
            exact hf3
          · have : j + 1 = z.length := by omega
            rw [this]
            simp
            omega
        · have hil : i = l'.length + 1 := by
            have := (List.getElem?_eq_some_iff.1 hw).1
            simp at this; omega
          subst hil
          rw [hx] at hw
          cases hw
          refine ⟨z.length, (x.2, x.1), by simp, rfl, by simp; omega, ?_⟩
          unfold endp
          rw [List.getElem?_eq_none (by simp)]
          simp
      · by_cases hj : j < z.length
        · rw [List.getElem?_append_left hj] at hw
          obtain ⟨i, w', hw', hh⟩ := h3 _ _ hw
          exact ⟨i, w', by rw [List.getElem?_append_left (List.getElem?_eq_some_iff.1 hw').1]; exact hw', hh⟩
        · have hj : j = z.length := by
            have := (List.getElem?_eq_some_iff.1 hw).1
            simp at this; omega
          subst hj
          simp at hw
          subst hw
          exact ⟨_, x, hx, by simp; omega, rfl⟩
theorem inc_take {l : List LB} (h : Inc l) (k : Nat) : Inc (l.take k) := by
  refine ⟨by have := h.1; simp; omega, fun i x hx => ?_⟩
  have h1 := (List.getElem?_eq_some_iff.1 hx).1
  simp at h1
  rw [List.getElem?_take_of_lt (by omega)] at hx
  obtain ⟨h2, h3, h4⟩ := h.2 i x hx
  refine ⟨h2, h3, fun j y hj hy => ?_⟩
  have h5 := (List.getElem?_eq_some_iff.1 hy).1
  simp at h5
  rw [List.getElem?_take_of_lt (by omega)] at hy
  exact h4 j y hj hy
theorem tab_of {l : List LB} (h : Inc l) : Tab l (ofM (l.map toB)) := by
  have key : ∀ k, k ≤ l.length → Tab (l.take k) (ofM ((l.map toB).take k)) := by
    intro k
    induction k with
    | zero => intro _; exact tab_nil
    | succ k ih =>
      intro hk
      have hx : l[k]? = some l[k] := List.getElem?_eq_getElem (by omega)
      have hx' : (l.map toB)[k]? = some (toB l[k]) := by rw [List.getElem?_map, hx]; rfl
      have hs := inc_take h (k + 1)
      rw [ofM_succ hx']
      rw [List.take_succ_eq_append_getElem (by omega)] at hs ⊢
      obtain ⟨h1, h2⟩ := tab_snoc hs (ih (by omega))
      rw [show (toB l[k]).epoch = l[k].2 from rfl, show (toB l[k]).base = l[k].1 from rfl, if_pos h1]
      exact h2
  have := key l.length (Nat.le_refl _)
  rwa [List.take_length, List.take_of_length_le (by simp)] at this
/-- Two logs meet where they part. -/
theorem safe_meet {both A B : List LB} (ha : Inc (both ++ A)) (hb : Inc (both ++ B)) {n : Int} (hn : ∀ x, both[both.length - 1]? = some x → x.2 = n) (hA : ∀ x ∈ A, n < x.2 ∧ x.2 % 2 = 0) (hB : ∀ x ∈ B, n < x.2 ∧ x.2 % 2 = 1)
    {za zb : List Epo} (ta : Tab (both ++ A) za) (tb : Tab (both ++ B) zb) {m : Int} (h : MeetR za zb (both ++ A).length (both ++ B).length m) : m = both.length := by
  obtain ⟨a1, a2, a3⟩ := ta
  obtain ⟨b1, b2, b3⟩ := tb
  have hle : ∀ (i : Nat) (x : LB), both[i]? = some x → x.2 ≤ n := fun i x hx => by
    have hl := (List.getElem?_eq_some_iff.1 hx).1
    have hq : both[both.length - 1]? = some both[both.length - 1] := List.getElem?_eq_getElem (by omega)
    rw [← hn _ hq]
    exact (ha.2 i x (by rw [List.getElem?_append_left hl]; exact hx)).2.2 (both.length - 1) _ (by omega) (by rw [List.getElem?_append_left (by omega)]; exact hq)
  rcases h with ⟨h1, -⟩ | ⟨-, -, h3⟩
  · rcases h1 with h | h
    · exact absurd a1 h
    · exact absurd b1 h
  by_cases h0 : both = []
  · subst h0
    rcases h3 with ⟨-, rfl⟩ | ⟨i, x, k, y, hx, hy, hxy, -, -⟩
    · rfl
    · obtain ⟨i', w, hw, -, hw1⟩ := a3 _ _ hx
      obtain ⟨k', u, hu, -, hu1⟩ := b3 _ _ hy
      have := hA w (by simpa using List.mem_of_getElem? hw)
      have := hB u (by simpa using List.mem_of_getElem? hu)
      omega
  have hpos : 0 < both.length := List.length_pos_iff.2 h0
  have hq : both[both.length - 1]? = some both[both.length - 1] := List.getElem?_eq_getElem (by omega)
  have hqn := hn _ hq
  obtain ⟨j, e, hj, hj1, hj2, hj3⟩ := a2 (both.length - 1) _ (by rw [List.getElem?_append_left (by omega)]; exact hq)
  obtain ⟨j', e', hj', hj1', hj2', hj3'⟩ := b2 (both.length - 1) _ (by rw [List.getElem?_append_left (by omega)]; exact hq)
  rcases h3 with ⟨h4, -⟩ | ⟨i, x, k, y, hx, hy, hxy, hmax, rfl⟩
  · exact absurd (hj1.trans hj1'.symm) (h4 _ _ _ _ hj hj')
  have hxn : x.1 = n := by
    obtain ⟨i', w, hw, -, hw1⟩ := a3 _ _ hx
    obtain ⟨k', u, hu, -, hu1⟩ := b3 _ _ hy
    have hxle : x.1 ≤ n := by
      by_cases hi : i' < both.length
      · rw [List.getElem?_append_left hi] at hw
        have := hle _ _ hw
        omega
      · rw [List.getElem?_append_right (by omega)] at hw
        have h5 := hA w (List.mem_of_getElem? hw)
        by_cases hk : k' < both.length
        · rw [List.getElem?_append_left hk] at hu
          have := hle _ _ hu
          omega
        · rw [List.getElem?_append_right (by omega)] at hu
          have := hB u (List.mem_of_getElem? hu)
          omega
    by_cases hlt : x.1 < n
    · have hij := chk_lt a1 hx hj (by omega)
      exact absurd (hj1.trans hj1'.symm) (hmax _ _ _ _ hij hj hj')
    · omega
  have e1 := chk_inj a1 hx hj (by omega)
  have e2 := chk_inj b1 hy hj' (by omega)
  subst e1 e2
  have hend : ∀ {C : List LB} {z : List Epo} {i : Nat} {x : Epo}, chkN z = 0 → (∀ (i : Nat) (x : LB), (both ++ C)[i]? = some x → ∃ (j : Nat) (e : Epo), z[j]? = some e ∧ e.1 = x.2 ∧ e.2 ≤ i ∧ (i : Int) < endp z j (both ++ C).length) → (∀ w ∈ C, n < w.2) → z[i]? = some x → x.1 = n →
      (((both.length - 1 : Nat) : Int) < endp z i (both ++ C).length) → (∀ (j : Nat) (e : Epo), z[j]? = some e → ∃ (i : Nat) (x : LB), (both ++ C)[i]? = some x ∧ e.2 = i ∧ e.1 = x.2) → endp z i (both ++ C).length = both.length := by
    intro C z i x hz h2 hC hx hxn hlt h3
    have hup : endp z i (both ++ C).length ≤ both.length := by
      cases C with
      | nil =>
        unfold endp
        cases hy : z[i + 1]? with
        | none => simp
        | some y =>
          obtain ⟨i', w, hw, hw2, hw1⟩ := h3 _ _ hy
          have := (List.getElem?_eq_some_iff.1 hw).1
          simp at this ⊢
          omega
      | cons c C =>
        obtain ⟨j, e, he, he1, he2, -⟩ := h2 both.length c (by simp)
        have hc := hC c (.head _)
        have hij := chk_lt hz hx he (by omega)
        unfold endp
        have hjl := (List.getElem?_eq_some_iff.1 he).1
        obtain ⟨y, hy⟩ : ∃ y, z[i + 1]? = some y := ⟨z[i + 1], List.getElem?_eq_getElem (by omega)⟩
        rw [hy]
        simp
        by_cases hj : i + 1 = j
        · rw [hj, he] at hy; cases hy; exact he2
        · have := (chk_mono hz (show i + 1 < j by omega) hy he).2
          omega
    omega
  rw [hend a1 a2 (fun w hw => (hA w hw).1) hx hxn hj3 a3, hend b1 b2 (fun w hw => (hB w hw).1) hy (by omega) hj3' b3]
  omega
end Go.Proofs.Ytgclikgkfchmlaa
