/- The tenth text of the small logic: regions. No condition. -/
import Derived.Test.YtdiccicokbbcoaaK9
set_option linter.unusedSimpArgs false
set_option linter.unusedVariables false
namespace Go.Kx
open Go Go.RowKit

def eqME (x y : ME) : Bool := x.d == y.d && x.s == y.s && x.o == y.o && x.g == y.g
theorem eqME_eq {x y : ME} (h : eqME x y = true) : x = y := by
  obtain ⟨a, b, c, d⟩ := x
  obtain ⟨a', b', c', d'⟩ := y
  simp only [eqME, Bool.and_eq_true, beq_iff_eq] at h
  obtain ⟨⟨⟨rfl, rfl⟩, rfl⟩, rfl⟩ := h
  rfl
/-- The slot that an operation passed over leaves empty. -/
def skipD (vs : List Nat) (o : Oper) : Nat :=
  match o.dst with
  | none => 99999
  | some d => if vs.contains d then 99999 else d
def skipOk (rs vs : List Nat) (m m' : List ME) (g : Option (Nat × Bool)) (o : Oper) : Bool :=
  (match o.dst with | none => true | some d => !vs.contains d || !rs.contains d) && m'.all fun x => x.g == g || (m.any (eqME x) && some x.d != o.dst)
/-- An operation of a region: its guard, what it is, which variable must be there, which slot is left empty when it is passed over. -/
structure SI where
  g : Option (Nat × Bool)
  s : SOp
  c : Option Nat
  k : Nat
/-- A region's operations. -/
def slimL (P : Program) (N : Nat) (rs vs : List Nat) (all : Array Oper) : List Oper → List ME → Option (List SI)
  | [], _ => some []
  | o :: l, m =>
    match o.guard with
    | none => (slim1 P N rs vs m none o).bind fun x => (slimL P N rs vs all l x.2.1).map (⟨none, x.1, x.2.2, 0⟩ :: ·)
    | some (j, b) => ((all[j]?).bind (·.dst)).bind fun d => if d < N ∧ vs.contains d = false then
        (slim1 P N rs vs m (some (d, b)) o).bind fun x => if skipOk rs vs m x.2.1 (some (d, b)) o = true then (slimL P N rs vs all l x.2.1).map (⟨some (d, b), x.1, x.2.2, skipD vs o⟩ :: ·) else none else none
/-- What a region asks. -/
def regionH (P : Program) : List SI → Env → H → (Env → H → Prop) → Prop
  | [], e, h, K => K e h
  | ⟨none, s, c, _⟩ :: l, e, h, K => opC P c s e h fun e h => regionH P l e h K
  | ⟨some (d, b), s, c, k⟩ :: l, e, h, K => if gOk (e d) b = true then opC P c s e h fun e h => regionH P l e h K else regionH P l (e.set k undef) h K
def regionQ (P : Program) : List SI → Env → H → (Env → Prop) → Prop
  | [], e, _, K => K e
  | ⟨none, s, c, _⟩ :: l, e, h, K => opQC P c s e h fun e => regionQ P l e h K
  | ⟨some (d, b), s, c, k⟩ :: l, e, h, K => if gOk (e d) b = true then opQC P c s e h fun e => regionQ P l e h K else regionQ P l (e.set k undef) h K

section sound
variable {r : Option Nat} {P : Program} {N : Nat} {rs vs : List Nat} {β : Nat → Nat} {a : Act} {w : World} {e : Env} {h : H} {o : Oper} {K : Env → H → Prop} {s : SOp} {d : Nat} {m m' : List ME} {g : Option (Nat × Bool)} {c : Option Nat}

/-- The places bear guards that are seen. -/
def GM (N : Nat) (m : List ME) : Prop := ∀ x ∈ m, ∀ p, x.g = some p → p.1 < N
theorem slim1_gm (hs : slim1 P N rs vs m g o = some (s, m', c)) (hm : GM N m) (hg : ∀ p, g = some p → p.1 < N) : GM N m' := by
  have keep : ∀ d, GM N (keepM m d) := fun d x hx => hm x (List.mem_filter.1 hx).1
  have norm : ∀ {s m' c}, (slimN P N vs o).map (fun x => (x, keepM m o.dst, (none : Option Nat))) = some (s, m', c) → GM N m' := by
    intro s m' c hs
    simp only [Option.map_eq_some_iff, Prod.mk.injEq] at hs
    obtain ⟨x, hx, rfl, rfl, rfl⟩ := hs
    exact keep _
  have filt : ∀ (p : ME → Bool), GM N (m.filter p) := fun p x hx => hm x (List.mem_filter.1 hx).1
  unfold slim1 at hs
  split at hs
  · split at hs
    · split at hs
      · split at hs
        · simp only [Option.map_eq_some_iff, Prod.mk.injEq] at hs
          obtain ⟨_, _, _, rfl, _⟩ := hs
          exact filt _
        · cases hs
      · exact norm hs
    · cases hs
  · split at hs
    · split at hs
      · split at hs
        · simp only [Option.map_eq_some_iff, Prod.mk.injEq] at hs
          obtain ⟨_, _, _, rfl, _⟩ := hs
          exact filt _
        · cases hs
      · exact norm hs
    · cases hs
  · split at hs
    · split at hs
      · split at hs
        · simp only [Option.bind_eq_some_iff] at hs
          obtain ⟨_, _, _, _, hs⟩ := hs
          split at hs
          · cases hs
          · simp only [Option.some.injEq, Prod.mk.injEq] at hs
            obtain ⟨_, rfl, _⟩ := hs
            intro x hx
            rcases List.mem_cons.1 hx with rfl | hx
            · exact hg
            · exact filt _ x hx
        · cases hs
      · cases hs
    · exact norm hs
  · split at hs
    · simp only [Option.bind_eq_some_iff, Option.map_eq_some_iff, Prod.mk.injEq] at hs
      obtain ⟨_, _, _, _, _, rfl, _⟩ := hs
      exact keep _
    · exact norm hs
  · split at hs
    · split at hs
      · simp only [Option.bind_eq_some_iff, Option.map_eq_some_iff, Prod.mk.injEq] at hs
        obtain ⟨_, _, _, _, _, rfl, _⟩ := hs
        exact keep _
      · cases hs
    · exact norm hs
  · exact norm hs


theorem gOk_undef (b : Bool) : gOk undef b = false := rfl
theorem skip_sound {d0 : Nat} {b : Bool} (hk : skipOk rs vs m m' (some (d0, b)) o = true) (hN : N ≤ 99999) (hr : Rel r N rs vs β a e h) (hm : MapOk N rs vs β a e m) (hgo : gOk (e d0) b = false) (hm' : ∀ x ∈ m', x.d ∈ vs ∧ rs.contains x.d = false) :
    Rel r N rs vs β (a.put o.dst undef) (e.set (skipD vs o) undef) h ∧ MapOk N rs vs β (a.put o.dst undef) (e.set (skipD vs o) undef) m' := by
  simp only [skipOk, Bool.and_eq_true] at hk
  obtain ⟨hk1, hk2⟩ := hk
  have hset : ∀ i b', gOk ((e.set (skipD vs o) undef) i) b' = true → gOk (e i) b' = true := by
    intro i b' hh
    simp only [Env.set] at hh
    split at hh
    · cases hh
    · exact hh
  have hslot : ∀ i, o.dst ≠ some i → (a.put o.dst undef).tmps.getD i undef = a.tmps.getD i undef := by
    intro i hi
    cases hd : o.dst with
    | none => rfl
    | some d => exact getD_put_ne (fun he => hi (by rw [hd, he]))
  constructor
  · refine ⟨?_, fun i hi hv => ?_, fun s cs hs => ?_, ?_⟩
    · cases hd : o.dst with
      | none => exact hr.size
      | some d => simp [Act.put, hr.size]
    · by_cases hdi : o.dst = some i
      · have : skipD vs o = i := by simp only [skipD, hdi]; rw [if_neg (by simpa using hv)]
        rw [this, hdi]
        simp [Env.set, getD_put_eq (a := a) (v := undef) (d := i) (by rw [hr.size]; exact hi)]
      · rw [hslot i hdi]
        simp only [Env.set]
        rw [if_neg]
        · exact hr.env i hi hv
        · intro he
          simp only [skipD] at he
          split at he
          · omega
          · rename_i d hd
            split at he
            · omega
            · exact hdi (by rw [hd, he])
    · obtain ⟨g1, g2, g3⟩ := hr.reg s cs hs
      refine ⟨g1, g2, ?_⟩
      rw [hslot s]
      · exact g3
      · intro hd
        simp only [hd, Bool.or_eq_true, Bool.not_eq_true'] at hk1
        rcases hk1 with h1 | h1
        · have : vs.contains s = true := by simpa using g1.2
          rw [h1] at this; cases this
        · have : rs.contains s = true := by simpa using g1.1
          rw [h1] at this; cases this
    · cases hd : o.dst with
      | none => exact hr.dfr
      | some d => exact hr.dfr
  · constructor
    intro x hx
    refine ⟨hm' x hx, fun hgx => ?_⟩
    have := List.all_eq_true.1 hk2 x hx
    simp only [Bool.or_eq_true, Bool.and_eq_true] at this
    rcases this with h1 | ⟨h1, h2⟩
    · exfalso
      have h1 : x.g = some (d0, b) := by simpa using h1
      rcases hgx with h | ⟨d, b', h, hb⟩
      · rw [h1] at h; cases h
      · rw [h1] at h; cases h; rw [hset _ _ hb] at hgo; cases hgo
    · obtain ⟨y, hy, hxy⟩ := List.any_eq_true.1 h1
      have := eqME_eq hxy
      subst this
      rw [hslot x.d (fun he => by simp [he] at h2)]
      apply (hm.ok x hy).2
      rcases hgx with h | ⟨d, b', h, hb⟩
      · exact .inl h
      · exact .inr ⟨d, b', h, hset _ _ hb⟩

theorem slim1_vs (hs : slim1 P N rs vs m g o = some (s, m', c)) (hm : ∀ x ∈ m, x.d ∈ vs ∧ rs.contains x.d = false) : ∀ x ∈ m', x.d ∈ vs ∧ rs.contains x.d = false := by
  have filt : ∀ (p : ME → Bool), ∀ x ∈ m.filter p, x.d ∈ vs ∧ rs.contains x.d = false := fun p x hx => hm x (List.mem_filter.1 hx).1
  have norm : ∀ {s m' c}, (slimN P N vs o).map (fun x => (x, keepM m o.dst, (none : Option Nat))) = some (s, m', c) → ∀ x ∈ m', x.d ∈ vs ∧ rs.contains x.d = false := by
    intro s m' c hs
    simp only [Option.map_eq_some_iff, Prod.mk.injEq] at hs
    obtain ⟨x, hx, rfl, rfl, rfl⟩ := hs
    exact filt _
  unfold slim1 at hs
  split at hs
  · split at hs
    · split at hs
      · split at hs
        · simp only [Option.map_eq_some_iff, Prod.mk.injEq] at hs
          obtain ⟨_, _, _, rfl, _⟩ := hs
          exact filt _
        · cases hs
      · exact norm hs
    · cases hs
  · split at hs
    · split at hs
      · split at hs
        · simp only [Option.map_eq_some_iff, Prod.mk.injEq] at hs
          obtain ⟨_, _, _, rfl, _⟩ := hs
          exact filt _
        · cases hs
      · exact norm hs
    · cases hs
  · split at hs
    · split at hs
      · split at hs
        · rename_i hc
          simp only [Option.bind_eq_some_iff] at hs
          obtain ⟨_, _, _, _, hs⟩ := hs
          split at hs
          · cases hs
          · simp only [Option.some.injEq, Prod.mk.injEq] at hs
            obtain ⟨_, rfl, _⟩ := hs
            intro x hx
            rcases List.mem_cons.1 hx with rfl | hx
            · exact ⟨by simpa using hc.1, hc.2.1⟩
            · exact filt _ x hx
        · cases hs
      · cases hs
    · exact norm hs
  · split at hs
    · simp only [Option.bind_eq_some_iff, Option.map_eq_some_iff, Prod.mk.injEq] at hs
      obtain ⟨_, _, _, _, _, rfl, _⟩ := hs
      exact filt _
    · exact norm hs
  · split at hs
    · split at hs
      · simp only [Option.bind_eq_some_iff, Option.map_eq_some_iff, Prod.mk.injEq] at hs
        obtain ⟨_, _, _, _, _, rfl, _⟩ := hs
        exact filt _
      · cases hs
    · exact norm hs
  · exact norm hs

theorem wanted_iff {all : Array Oper} {j d0 : Nat} {b : Bool} (hr : Rel r N rs vs β a e h) (hd : (all[j]?).bind (·.dst) = some d0) (hdN : d0 < N) (hdv : vs.contains d0 = false) (hg : o.guard = some (j, b)) : Region.wanted o (yielded all a.tmps) = gOk (e d0) b := by
  have he := hr.env d0 hdN (by simpa using hdv)
  have hsz : d0 < a.tmps.size := by rw [hr.size]; exact hdN
  have hq : a.tmps[d0]? = some (e d0) := by
    rw [← he]
    simp [Array.getD_eq_getD_getElem?, hsz]
  simp only [Region.wanted, hg, yielded, hd, Option.bind_some, hq]
  cases e d0 <;> simp [gOk]

/-- **A region in the text's order.** -/
theorem ops_sound {all : Array Oper} {Q : Exit → Env → H → Prop} (hN : N ≤ 99999) {β0 : Nat → Nat} {h0 : H} {w0 : World} : ∀ (l : List Oper) (k : Nat) (m : List ME) (sl : List SI) (β : Nat → Nat) (a : Act) (w : World) (e : Env) (h : H), (∀ j, l[j]? = all[k + j]?) → slimL P N rs vs all l m = some sl →
    Rel r N rs vs β a e h → MapOk N rs vs β a e m → GM N m → Sat β h w → Step β0 h0 w0 β h w → regionH P sl e h K → wpOpsIn (Fr r) 0 P all (PostH r N rs vs β0 h0 w0 (thenH K Q)) (List.range' k l.length) a w
  | [], k, m, sl, β, a, w, e, h, _, hs, hr, _, _, hw, hst, hk => by
    simp only [slimL, Option.some.injEq] at hs
    subst hs
    exact ⟨β, e, h, hr, hw, hst, hk⟩
  | o :: l, k, m, sl, β, a, w, e, h, hl, hs, hr, hm, hgm, hw, hst, hk => by
    have ho : all[k]? = some o := by simpa using (hl 0).symm
    have hl' : ∀ j, l[j]? = all[k + 1 + j]? := fun j => by have := hl (j + 1); simpa [Nat.add_assoc, Nat.add_comm 1 j] using this
    simp only [List.length_cons, List.range'_succ, wpOpsIn, ho]
    have hgm9 : ∀ x ∈ m, ∀ p, x.g = some p → p.1 < 99999 := fun x hx p hp => Nat.lt_of_lt_of_le (hgm x hx p hp) hN
    have go : ∀ {s m' c g sl'}, slim1 P N rs vs m g o = some (s, m', c) → (∀ p, g = some p → p.1 < N) → (g = none ∨ ∃ d b, g = some (d, b) ∧ gOk (e d) b = true) → slimL P N rs vs all l m' = some sl' → opC P c s e h (fun e h => regionH P sl' e h K) →
        o.wpIn (Fr r) 0 P a w (wpOpsIn (Fr r) 0 P all (PostH r N rs vs β0 h0 w0 (thenH K Q)) (List.range' (k + 1) l.length)) (PostH r N rs vs β0 h0 w0 (thenH K Q)) := by
      intro s m' c g sl' h1 hgN hgo hsl hop
      refine wpIn_mono' (op1_sound h1 hN hr hw hop hm hgm9 hgo) ?_
      rintro a' w' ⟨β', e', h', r1, r2, r3, r4, r5⟩
      exact ops_sound hN l (k + 1) m' sl' β' a' w' e' h' hl' hsl r1 r2 (slim1_gm h1 hgm hgN) r3 (hst.trans r4) r5
    unfold slimL at hs
    split at hs
    · rename_i hg
      simp only [Option.bind_eq_some_iff, Option.map_eq_some_iff] at hs
      obtain ⟨⟨s, m', c⟩, h1, sl', h2, rfl⟩ := hs
      rw [if_pos (by simp [Region.wanted, hg])]
      exact go h1 (fun p hp => by cases hp) (.inl rfl) h2 hk
    · rename_i j b hg
      simp only [Option.bind_eq_some_iff] at hs
      obtain ⟨d0, hd0, hs⟩ := hs
      split at hs
      · rename_i hdc
        simp only [Option.bind_eq_some_iff] at hs
        obtain ⟨⟨s, m', c⟩, h1, hs⟩ := hs
        split at hs
        · rename_i hsk
          simp only [Option.map_eq_some_iff] at hs
          obtain ⟨sl', h2, rfl⟩ := hs
          rw [wanted_iff hr (by simpa [Option.bind_eq_some_iff] using hd0) hdc.1 hdc.2 hg]
          simp only [regionH] at hk
          by_cases hgo : gOk (e d0) b = true
          · rw [if_pos hgo] at hk ⊢
            exact go h1 (fun p hp => by cases hp; exact hdc.1) (.inr ⟨d0, b, rfl, hgo⟩) h2 hk
          · rw [if_neg hgo] at hk ⊢
            have hsn := skip_sound (o := o) hsk hN hr hm (by simpa using hgo) (slim1_vs h1 (fun x hx => (hm.ok x hx).1))
            exact ⟨fun _ _ => trivial, ops_sound hN l (k + 1) m' sl' β _ w _ h hl' h2 hsn.1 hsn.2 (slim1_gm h1 hgm (fun p hp => by cases hp; exact hdc.1)) hw hst hk⟩
        · cases hs
      · cases hs
end sound

/-- **A region that does not draw its order.** -/
theorem wpH_region {r : Option Nat} {P : Program} {N : Nat} {rs vs : List Nat} {Q : Exit → Env → H → Prop} {K : Env → H → Prop} {e : Env} {h : H} {id : Nat} {ops : Array Oper} {sl : List SI} (hN : N ≤ 99999) (hs : slimL P N rs vs ops ops.toList [] = some sl) (hk : regionH P sl e h K) :
    wpH r P N rs vs (.region id ops false) (thenH K Q) e h := by
  intro β a w hr hw
  refine wpIn_region ?_
  have := ops_sound (P := P) (Q := Q) (all := ops) hN ops.toList 0 [] sl β a w e h (by simp) hs hr ⟨fun x hx => by cases hx⟩ (fun x hx => by cases hx) hw (.refl β h w) hk
  rw [List.range_eq_range']
  simpa using this
end Go.Kx
