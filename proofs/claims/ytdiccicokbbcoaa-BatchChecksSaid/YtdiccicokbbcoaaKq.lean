/- The text behind that: regions whose order is open and forks. No condition. -/
import Derived.Test.YtdiccicokbbcoaaKp
set_option linter.unusedSimpArgs false
set_option linter.unusedVariables false
namespace Go.Kx
open Go Go.RowKit

def slimO (P : Program) (N : Nat) (rs vs : List Nat) (all : Array Oper) (o : Oper) (m : List ME) : Option (SI × List ME) :=
  match o.guard with
  | none => (slim1 P N rs vs m none o).map fun x => (⟨none, x.1, x.2.2, 0⟩, x.2.1)
  | some (j, b) => ((all[j]?).bind (·.dst)).bind fun d => if d < N ∧ vs.contains d = false then
      (slim1 P N rs vs m (some (d, b)) o).bind fun x => if skipOk rs vs m x.2.1 (some (d, b)) o = true then some (⟨some (d, b), x.1, x.2.2, skipD vs o⟩, x.2.1) else none else none
def slimF {α : Type} (P : Program) (N : Nat) (rs vs : List Nat) (all : Array Oper) (T : List ME → Option α) : List (Bool × Nat) → List ME → Option (List (Bool × SI) × α)
  | [], m => (T m).map fun x => ([], x)
  | (t, i) :: σ, m => (all[i]?).bind fun o => (slimO P N rs vs all o m).bind fun x => if (!t || notCall x.1.s) = true then (slimF P N rs vs all T σ x.2).map fun y => ((t, x.1) :: y.1, y.2) else none
def schedPB (md : Region.Mode) (ops : Array Oper) (B : Array Bool → Bool) : List (Bool × Nat) → Array Bool → Bool
  | [], listed => B listed
  | (true, i) :: l, listed => (Region.ready md ops listed).contains i && Region.free md ops listed i && schedPB md ops B l (listed.setIfInBounds i true)
  | (false, i) :: l, listed => decide (Region.ready md ops listed = [i]) && schedPB md ops B l (listed.setIfInBounds i true)
theorem regionX_cons {P : Program} {h1 : H} {t : Bool} {x : SI} {l : List (Bool × SI)} {e : Env} {h : H} {K : Env → H → Prop} : regionX P h1 ((t, x) :: l) e h K = regionX P h1 [(t, x)] e h fun e h => regionX P h1 l e h K := by
  obtain ⟨g, s, c, k⟩ := x
  cases t <;> cases g with
  | none => rfl
  | some p => obtain ⟨d, b⟩ := p; rfl

section fork
variable {r : Option Nat} {P : Program} {N : Nat} {rs vs : List Nat} {K : Env → H → Prop}
/-- What is known on the way. -/
structure Way (r : Option Nat) (N : Nat) (rs vs : List Nat) (β0 : Nat → Nat) (h0 h1 : H) (w0 : World) (m : List ME) (β : Nat → Nat) (a : Act) (w : World) (e : Env) (h : H) : Prop where
  rel : Rel r N rs vs β a e h
  map : MapOk N rs vs β a e m
  gm : GM N m
  sat : Sat β h w
  step : Step β0 h0 w0 β h w
  grow : Grow h1 h
  ag : ∀ s cs, Item.reg s cs ∈ h1.L → β s = β0 s
variable {ops : Array Oper} {β0 : Nat → Nat} {h0 h1 : H} {w0 : World} {m : List ME} {β : Nat → Nat} {a : Act} {w : World} {e : Env} {h : H} {n : Nat} {listed : Array Bool} {o : Oper} {i : Nat} {x : SI} {m' : List ME} {KK : Env → H → Prop}
theorem way_sat (hw : Way r N rs vs β0 h0 h1 w0 m β a w e h) : Sat β0 h1 w := sat_agree hw.ag (sat_grow hw.grow hw.sat)
theorem way_skip (hN : N ≤ 99999) {s : SOp} {c : Option Nat} {d0 : Nat} {b : Bool} (hw : Way r N rs vs β0 h0 h1 w0 m β a w e h) (q1 : slim1 P N rs vs m (some (d0, b)) o = some (s, m', c)) (q2 : d0 < N) (q3 : skipOk rs vs m m' (some (d0, b)) o = true) (q4 : gOk (e d0) b = false) :
    Way r N rs vs β0 h0 h1 w0 m' β (a.put o.dst undef) w (e.set (skipD vs o) undef) h := by
  have hsn := skip_sound (o := o) q3 hN hw.rel hw.map q4 (slim1_vs q1 (fun x hx => (hw.map.ok x hx).1))
  exact ⟨hsn.1, hsn.2, slim1_gm q1 hw.gm (fun p hp => by cases hp; exact q2), hw.sat, hw.step, hw.grow, hw.ag⟩
/-- One that reads. -/
theorem take_way (hN : N ≤ 99999) (hsel : Region.noSelect ops = true) (hnd : ∀ (j : Nat) (o : Oper), ops[j]? = some o → nodefer o) (hdst : ops.all (dstOk rs) = true) (ho : ops[i]? = some o) (hw : Way r N rs vs β0 h0 h1 w0 m β a w e h) (hs : slimO P N rs vs ops o m = some (x, m')) (hq : notCall x.s = true)
    (hri : (Region.ready .any ops listed).contains i = true) (hfr : Region.free .any ops listed i = true) (hk : regionX P h1 [(true, x)] e h KK)
    (hn : ∀ β a w e h, Way r N rs vs β0 h0 h1 w0 m' β a w e h → KK e h → wpAnyHI r P .any ops (PostH r N rs vs β0 h0 w0 (thenH K (fun _ _ _ => False))) (Sat β0 h1) n (listed.setIfInBounds i true) a w) :
    wpAnyHI r P .any ops (PostH r N rs vs β0 h0 w0 (thenH K (fun _ _ _ => False))) (Sat β0 h1) (n + 1) listed a w := by
  have hdo : dstOk rs o = true := by
    have := Array.all_eq_true.1 hdst i (Array.getElem?_eq_some_iff.1 ho).1
    rw [(Array.getElem?_eq_some_iff.1 ho).2] at this
    exact this
  have hgm9 : ∀ x ∈ m, ∀ p, x.g = some p → p.1 < 99999 := fun x hx p hp => Nat.lt_of_lt_of_le (hw.gm x hx p hp) hN
  have hQ : ∀ c a w, PostH r N rs vs β0 h0 w0 (thenH K (fun _ _ _ => False)) (.panic c) a w → ∀ a', PostH r N rs vs β0 h0 w0 (thenH K (fun _ _ _ => False)) (.panic c) a' w := fun c a w hq => by obtain ⟨_, _, _, _, _, _, hf⟩ := hq; exact hf.elim
  have take : ∀ {s c g}, slim1 P N rs vs m g o = some (s, m', c) → (∀ p, g = some p → p.1 < N) → (g = none ∨ ∃ d b, g = some (d, b) ∧ gOk (e d) b = true) → Region.wanted o (yielded ops a.tmps) = true → notCall s = true → opQC P c s e h1 (fun e => KK e h) →
      wpAnyHI r P .any ops (PostH r N rs vs β0 h0 w0 (thenH K (fun _ _ _ => False))) (Sat β0 h1) (n + 1) listed a w := by
    intro s c g q1 q2 q3 qw q4 q10
    have hC : ∀ w, Sat β0 h1 w → Sat β h1 w := fun w hs => sat_agree (fun s cs hm => (hw.ag s cs hm).symm) hs
    obtain ⟨v, hv, e', z1, z2, z3⟩ := op1_yld (C := Sat β0 h1) q1 hN (rel_grow hw.grow hw.rel) hC q4 q10 hw.map hgm9 q3
    refine wpAnyHI_first hnd ho (Region.noSelect_spec hsel) (fun c a w hq => hQ c _ w hq _) n listed a w (Region.free_spec ho hfr) (by simpa using hri) (.inl ⟨qw, hv⟩) (way_sat hw) ?_
    exact hn β _ w e' h ⟨rel_back hw.grow hdo hw.rel z1, z2, slim1_gm q1 hw.gm q2, hw.sat, hw.step, hw.grow, hw.ag⟩ z3
  unfold slimO at hs
  split at hs
  · rename_i hg
    simp only [Option.map_eq_some_iff, Prod.mk.injEq] at hs
    obtain ⟨⟨s, m'', c⟩, q1, rfl, rfl⟩ := hs
    have hw1 : Region.wanted o (yielded ops a.tmps) = true := by simp [Region.wanted, hg]
    exact take q1 (fun p hp => by cases hp) (.inl rfl) hw1 hq hk
  · rename_i j0 b hg
    simp only [Option.bind_eq_some_iff] at hs
    obtain ⟨d0, hd0, hs⟩ := hs
    split at hs
    · rename_i hdc
      simp only [Option.bind_eq_some_iff] at hs
      obtain ⟨⟨s, m'', c⟩, q1, hs⟩ := hs
      split at hs
      · rename_i hsk
        simp only [Option.some.injEq, Prod.mk.injEq] at hs
        obtain ⟨rfl, rfl⟩ := hs
        have hwi := wanted_iff hw.rel (by simpa [Option.bind_eq_some_iff] using hd0) hdc.1 hdc.2 hg
        by_cases hgo : gOk (e d0) b = true
        · exact take q1 (fun p hp => by cases hp; exact hdc.1) (.inr ⟨d0, b, rfl, hgo⟩) (by rw [hwi]; exact hgo) hq (by simp only [regionX] at hk; rw [if_pos hgo] at hk; exact hk)
        · have hgf : gOk (e d0) b = false := by simpa using hgo
          exact wpAnyHI_first hnd ho (Region.noSelect_spec hsel) (fun c a w hq => hQ c _ w hq _) n listed a w (Region.free_spec ho hfr) (by simpa using hri) (.inr ⟨by rw [hwi]; exact hgf, rfl⟩) (way_sat hw)
            (hn β _ w _ h (way_skip hN hw q1 hdc.1 hsk hgf) (by simp only [regionX] at hk; rw [if_neg hgo] at hk; exact hk))
      · cases hs
    · cases hs
/-- One that may come. -/
theorem force_way (hN : N ≤ 99999) (hnd : ∀ (j : Nat) (o : Oper), ops[j]? = some o → nodefer o) (hdst : ops.all (dstOk rs) = true) (ho : ops[i]? = some o) (hw : Way r N rs vs β0 h0 h1 w0 m β a w e h) (hs : slimO P N rs vs ops o m = some (x, m'))
    (hk : regionX P h1 [(false, x)] e h KK)
    (hn : ∀ β a w e h, Way r N rs vs β0 h0 h1 w0 m' β a w e h → KK e h → wpAnyHI r P .any ops (PostH r N rs vs β0 h0 w0 (thenH K (fun _ _ _ => False))) (Sat β0 h1) n (listed.setIfInBounds i true) a w) :
    wpOpIn (Fr r) 0 P ops (PostH r N rs vs β0 h0 w0 (thenH K (fun _ _ _ => False))) i (fun a' w' => Sat β0 h1 w' ∧ wpAnyHI r P .any ops (PostH r N rs vs β0 h0 w0 (thenH K (fun _ _ _ => False))) (Sat β0 h1) n (listed.setIfInBounds i true) a' w') a w := by
  have hdo : dstOk rs o = true := by
    have := Array.all_eq_true.1 hdst i (Array.getElem?_eq_some_iff.1 ho).1
    rw [(Array.getElem?_eq_some_iff.1 ho).2] at this
    exact this
  have hgm9 : ∀ x ∈ m, ∀ p, x.g = some p → p.1 < 99999 := fun x hx p hp => Nat.lt_of_lt_of_le (hw.gm x hx p hp) hN
  have force : ∀ {s c g}, slim1 P N rs vs m g o = some (s, m', c) → (∀ p, g = some p → p.1 < N) → (g = none ∨ ∃ d b, g = some (d, b) ∧ gOk (e d) b = true) → opC P c s e h (fun e h => Grow h1 h ∧ KK e h) →
      o.wpIn (Fr r) 0 P a w (fun a' w' => Sat β0 h1 w' ∧ wpAnyHI r P .any ops (PostH r N rs vs β0 h0 w0 (thenH K (fun _ _ _ => False))) (Sat β0 h1) n (listed.setIfInBounds i true) a' w') (PostH r N rs vs β0 h0 w0 (thenH K (fun _ _ _ => False))) := by
    intro s c g q1 q2 q3 q10
    refine wpIn_mono' (wpIn_put (hnd i o ho) (op1_sound (Q := PostH r N rs vs β0 h0 w0 (thenH K (fun _ _ _ => False))) q1 hN hw.rel hw.sat q10 hw.map hgm9 q3)) ?_
    rintro a' w' ⟨⟨β', e', h', r1, r2, r3, r4, r5, r6⟩, v, hv⟩
    have hag' : ∀ s cs, Item.reg s cs ∈ h1.L → β' s = β0 s := fun s cs hm => by
      obtain ⟨p1, p2, p3⟩ := hw.rel.reg s cs (hw.grow.2.1.subset hm)
      obtain ⟨n1, n2, n3⟩ := r1.reg s cs (r5.2.1.subset hm)
      rw [hv, put_ne (by simpa using p1.1) hdo, p3] at n3
      injection n3 with n3
      injection n3 with n3
      injection n3 with n3
      rw [← n3]
      exact hw.ag s cs hm
    exact ⟨sat_agree hag' (sat_grow r5 r3), hn β' a' w' e' h' ⟨r1, r2, slim1_gm q1 hw.gm q2, r3, hw.step.trans r4, r5, hag'⟩ r6⟩
  unfold slimO at hs
  unfold wpOpIn
  split at hs
  · rename_i hg
    simp only [Option.map_eq_some_iff, Prod.mk.injEq] at hs
    obtain ⟨⟨s, m'', c⟩, q1, rfl, rfl⟩ := hs
    have hw1 : Region.wanted o (yielded ops a.tmps) = true := by simp [Region.wanted, hg]
    simp only [ho, hw1, if_true]
    exact force q1 (fun p hp => by cases hp) (.inl rfl) hk
  · rename_i j0 b hg
    simp only [Option.bind_eq_some_iff] at hs
    obtain ⟨d0, hd0, hs⟩ := hs
    split at hs
    · rename_i hdc
      simp only [Option.bind_eq_some_iff] at hs
      obtain ⟨⟨s, m'', c⟩, q1, hs⟩ := hs
      split at hs
      · rename_i hsk
        simp only [Option.some.injEq, Prod.mk.injEq] at hs
        obtain ⟨rfl, rfl⟩ := hs
        have hwi := wanted_iff hw.rel (by simpa [Option.bind_eq_some_iff] using hd0) hdc.1 hdc.2 hg
        by_cases hgo : gOk (e d0) b = true
        · simp only [ho, hwi, hgo, if_true]
          exact force q1 (fun p hp => by cases hp; exact hdc.1) (.inr ⟨d0, b, rfl, hgo⟩) (by simp only [regionX] at hk; rw [if_pos hgo] at hk; exact hk)
        · have hgf : gOk (e d0) b = false := by simpa using hgo
          simp only [ho, hwi, hgf, Bool.false_eq_true, if_false]
          exact ⟨fun _ _ => trivial, way_sat hw, hn β _ w _ h (way_skip hN hw q1 hdc.1 hsk hgf) (by simp only [regionX] at hk; rw [if_neg hgo] at hk; exact hk)⟩
      · cases hs
    · cases hs
/-- A stretch, and what is behind it. -/
theorem stretch_sound (hN : N ≤ 99999) (hsel : Region.noSelect ops = true) (hnd : ∀ (j : Nat) (o : Oper), ops[j]? = some o → nodefer o) (hdst : ops.all (dstOk rs) = true) {α : Type} {B : Array Bool → Bool} {T : List ME → Option α} {KT : α → Env → H → Prop}
    (fin : ∀ listed m t β a w e h, B listed = true → T m = some t → Way r N rs vs β0 h0 h1 w0 m β a w e h → KT t e h → wpAnyHI r P .any ops (PostH r N rs vs β0 h0 w0 (thenH K (fun _ _ _ => False))) (Sat β0 h1) n listed a w) :
    ∀ (σ : List (Bool × Nat)) (listed : Array Bool) (m : List ME) (l : List (Bool × SI)) (t : α) (β : Nat → Nat) (a : Act) (w : World) (e : Env) (h : H), schedPB .any ops B σ listed = true → slimF P N rs vs ops T σ m = some (l, t) → Way r N rs vs β0 h0 h1 w0 m β a w e h →
      regionX P h1 l e h (KT t) → wpAnyHI r P .any ops (PostH r N rs vs β0 h0 w0 (thenH K (fun _ _ _ => False))) (Sat β0 h1) (n + σ.length) listed a w
  | [], listed, m, l, t, β, a, w, e, h, hB, hs, hw, hk => by
    simp only [slimF, Option.map_eq_some_iff, Prod.mk.injEq] at hs
    obtain ⟨t', ht, rfl, rfl⟩ := hs
    exact fin listed m t' β a w e h hB ht hw hk
  | (b, i) :: σ, listed, m, l, t, β, a, w, e, h, hB, hs, hw, hk => by
    simp only [slimF, Option.bind_eq_some_iff] at hs
    obtain ⟨o, ho, ⟨x, m'⟩, hx, hs⟩ := hs
    split at hs
    · rename_i hq
      simp only [Option.map_eq_some_iff, Prod.mk.injEq] at hs
      obtain ⟨⟨l', t'⟩, hs, rfl, rfl⟩ := hs
      rw [regionX_cons] at hk
      cases b with
      | true =>
        simp only [schedPB, Bool.and_eq_true] at hB
        exact take_way (n := n + σ.length) hN hsel hnd hdst ho hw hx (by simpa using hq) hB.1.1 hB.1.2 hk fun β a w e h hw hk => stretch_sound hN hsel hnd hdst fin σ _ m' l' t' β a w e h hB.2 hs hw hk
      | false =>
        simp only [schedPB, Bool.and_eq_true, decide_eq_true_eq] at hB
        refine ⟨fun h0 => (by rw [hB.1] at h0; cases h0), fun j hj => ?_⟩
        rw [hB.1] at hj
        have hji : j = i := by simpa using hj
        subst hji
        exact force_way (n := n + σ.length) hN hnd hdst ho hw hx hk fun β a w e h hw hk => stretch_sound hN hsel hnd hdst fin σ _ m' l' t' β a w e h hB.2 hs hw hk
    · cases hs
end fork
/-- Orders that fork. -/
inductive Sch
  | leaf (σ : List (Bool × Nat))
  | br (σ : List (Bool × Nat)) (i : Nat) (x : Sch) (j : Nat) (y : Sch)
inductive RX
  | leaf (l : List (Bool × SI))
  | br (l : List (Bool × SI)) (s : SI) (x : RX) (t : SI) (y : RX)
def Sch.len : Sch → Nat
  | .leaf σ => σ.length
  | .br σ _ x _ _ => x.len + 1 + σ.length
def schTB (md : Region.Mode) (ops : Array Oper) : Sch → Array Bool → Bool
  | .leaf σ, listed => schedPB md ops (fun listed => (Region.ready md ops listed).isEmpty) σ listed
  | .br σ i x j y, listed => decide (x.len = y.len) && schedPB md ops (fun listed => !(Region.ready md ops listed).isEmpty && ((Region.ready md ops listed).all fun k => k == i || k == j) && schTB md ops x (listed.setIfInBounds i true) && schTB md ops y (listed.setIfInBounds j true)) σ listed
def slimZ (P : Program) (N : Nat) (rs vs : List Nat) (all : Array Oper) : Sch → List ME → Option RX
  | .leaf σ, m => (slimF P N rs vs all (fun _ => some ()) σ m).map fun y => .leaf y.1
  | .br σ i x j y, m => (slimF P N rs vs all (fun m => (all[i]?).bind fun o => (slimO P N rs vs all o m).bind fun s => (slimZ P N rs vs all x s.2).bind fun u => (all[j]?).bind fun p => (slimO P N rs vs all p m).bind fun t => (slimZ P N rs vs all y t.2).map fun v => (s.1, u, t.1, v)) σ m).map fun z => .br z.1 z.2.1 z.2.2.1 z.2.2.2.1 z.2.2.2.2
def regionZ (P : Program) (h1 : H) : RX → Env → H → (Env → H → Prop) → Prop
  | .leaf l, e, h, K => regionX P h1 l e h K
  | .br l s x t y, e, h, K => regionX P h1 l e h fun e h => (regionX P h1 [(false, s)] e h fun e h => regionZ P h1 x e h K) ∧ (regionX P h1 [(false, t)] e h fun e h => regionZ P h1 y e h K)
section tree
variable {r : Option Nat} {P : Program} {N : Nat} {rs vs : List Nat} {K : Env → H → Prop} {ops : Array Oper} {β0 : Nat → Nat} {h0 h1 : H} {w0 : World}
theorem tree_sound (hN : N ≤ 99999) (hsel : Region.noSelect ops = true) (hnd : ∀ (j : Nat) (o : Oper), ops[j]? = some o → nodefer o) (hdst : ops.all (dstOk rs) = true) :
    ∀ (σ : Sch) (listed : Array Bool) (m : List ME) (t : RX) (β : Nat → Nat) (a : Act) (w : World) (e : Env) (h : H), schTB .any ops σ listed = true → slimZ P N rs vs ops σ m = some t → Way r N rs vs β0 h0 h1 w0 m β a w e h →
      regionZ P h1 t e h K → wpAnyHI r P .any ops (PostH r N rs vs β0 h0 w0 (thenH K (fun _ _ _ => False))) (Sat β0 h1) σ.len listed a w
  | .leaf σ, listed, m, t, β, a, w, e, h, hB, hs, hw, hk => by
    simp only [slimZ, Option.map_eq_some_iff] at hs
    obtain ⟨⟨l, u⟩, hs, rfl⟩ := hs
    have := stretch_sound (r := r) (K := K) (n := 0) (KT := fun (_ : Unit) => K) hN hsel hnd hdst (B := fun listed => (Region.ready .any ops listed).isEmpty) (fun listed m t β a w e h hB _ hw hk => ⟨by simpa using hB, β, e, h, hw.rel, hw.sat, hw.step, hk⟩) σ listed m l u β a w e h hB hs hw hk
    rw [Nat.zero_add] at this
    exact this
  | .br σ i x j y, listed, m, t, β, a, w, e, h, hB, hs, hw, hk => by
    simp only [slimZ, Option.map_eq_some_iff] at hs
    obtain ⟨⟨l, s, u, t, v⟩, hs, rfl⟩ := hs
    simp only [schTB, Bool.and_eq_true, decide_eq_true_eq] at hB
    refine stretch_sound (r := r) (K := K) (n := x.len + 1) (KT := fun (z : SI × RX × SI × RX) e h => (regionX P h1 [(false, z.1)] e h fun e h => regionZ P h1 z.2.1 e h K) ∧ (regionX P h1 [(false, z.2.2.1)] e h fun e h => regionZ P h1 z.2.2.2 e h K)) hN hsel hnd hdst ?_ σ listed m l _ β a w e h hB.2 hs hw hk
    intro listed m z β a w e h hb hz hw hk
    simp only [Bool.and_eq_true, List.all_eq_true, Bool.or_eq_true, beq_iff_eq] at hb
    simp only [Option.bind_eq_some_iff, Option.map_eq_some_iff] at hz
    obtain ⟨o, ho, ⟨s, ms⟩, h5, u, h6, p, hp, ⟨t, mt⟩, h7, v, h8, rfl⟩ := hz
    refine ⟨fun h9 => (by rw [h9] at hb; simp at hb), fun k hkr => ?_⟩
    rcases hb.1.1.2 k hkr with rfl | rfl
    · exact force_way hN hnd hdst ho hw h5 hk.1 fun β a w e h hw hk => tree_sound hN hsel hnd hdst x _ _ _ β a w e h hb.1.2 h6 hw hk
    · refine force_way hN hnd hdst hp hw h7 hk.2 fun β a w e h hw hk => ?_
      rw [hB.1]
      exact tree_sound hN hsel hnd hdst y _ _ _ β a w e h hb.2 h8 hw hk
/-- **A region whose order forks.** -/
theorem wpH_regionZ {Q : Exit → Env → H → Prop} {e : Env} {h : H} {id : Nat} {t : RX} (σ : Sch) (L1 : List Item) (hL : L1.Sublist h.L) (hmix : P.follows .mixedOrders = true) (hsel : Region.noSelect ops = true) (hnd : noDefer ops = true) (hdst : ops.all (dstOk rs) = true)
    (hB : schTB .any ops σ (Array.replicate ops.size false) = true) (hlen : σ.len = ops.size) (hN : N ≤ 99999) (hs : slimZ P N rs vs ops σ [] = some t)
    (hk : regionZ P ⟨h.G, L1, h.D⟩ t e h fun e h => Q .normal e h) : wpH r P N rs vs (.region id ops true) Q e h := by
  intro β a w hr hw
  refine wpIn_mono (Q := PostH r N rs vs β h w (thenH (fun e h => Q .normal e h) (fun _ _ _ => False))) (wpIn_region_any hmix ?_) (fun x a w ⟨β', e', h', q1, q2, q3, q4⟩ => ⟨β', e', h', q1, q2, q3, by cases x <;> first | exact q4 | exact q4.elim⟩)
  rw [← hlen]
  refine wpAnyIn_of_held (S := Sat β ⟨h.G, L1, h.D⟩) _ _ _ _ ?_
  refine tree_sound hN hsel (noDefer_spec hnd) hdst σ _ [] t β a _ e h ?_ hs ⟨hr, ⟨fun x hx => by cases hx⟩, (fun x hx => by cases hx), ⟨hw.g, hw.l, hw.nd, hw.df, hw.d⟩, ⟨rfl, rfl, rfl, Nat.le_refl _, fun _ _ _ => rfl, fun _ _ h => h, fun _ h h' => absurd h h', fun _ h => .inl h, [], rfl, by simp⟩, ⟨fun _ _ h => h, hL, rfl⟩, (fun _ _ _ => rfl)⟩ hk
  rw [hlen]
  exact hB
end tree
/-- An order, sought. -/
def schGo (ops : Array Oper) (tk : Nat → Bool) : Nat → Array Bool → List (Bool × Nat) → Sch
  | 0, _, acc => .leaf acc.reverse
  | f + 1, listed, acc =>
    match Region.ready .any ops listed with
    | [] => .leaf acc.reverse
    | i :: is =>
      match (i :: is).find? fun j => tk j && Region.free .any ops listed j with
      | some j => schGo ops tk f (listed.setIfInBounds j true) ((true, j) :: acc)
      | none => match is with
        | [] => schGo ops tk f (listed.setIfInBounds i true) ((false, i) :: acc)
        | j :: _ => .br acc.reverse i (schGo ops tk f (listed.setIfInBounds i true) []) j (schGo ops tk f (listed.setIfInBounds j true) [])
end Go.Kx
