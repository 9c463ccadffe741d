/- The eighteenth text of the small logic: what is owned becomes what stays as it is. No condition. -/
import Derived.Test.YtdiccicokbbcoaaKh
set_option linter.unusedSimpArgs false
set_option linter.unusedVariables false
namespace Go.Kx
open Go Go.RowKit

/-- What is known may be turned into one of several. -/
def GhostX (h : H) (M : H → Prop) : Prop := ∀ β w, Sat β h w → ∃ h', M h' ∧ Sat β h' w ∧ Step β h w β h' w ∧ (h'.D = h.D ∧ RegSub h' h)
theorem GhostX.mono {h : H} {M M' : H → Prop} (hg : GhostX h M) (hm : ∀ h', M h' → M' h') : GhostX h M' := fun β w s => by
  obtain ⟨h', a, b⟩ := hg β w s
  exact ⟨h', hm _ a, b⟩
theorem GhostX.of {h h' : H} (hg : Ghost h h') : GhostX h (· = h') := fun β w s => by
  obtain ⟨a, b, c⟩ := hg β w s
  exact ⟨h', rfl, a, b, c⟩
theorem GhostX.id {h : H} {M : H → Prop} (hm : M h) : GhostX h M := fun β w s => ⟨h, hm, s, .refl _ _ _, rfl, .refl _⟩
theorem GhostX.trans {h : H} {M M' : H → Prop} (hg : GhostX h M) (hm : ∀ h', M h' → GhostX h' M') : GhostX h M' := fun β w s => by
  obtain ⟨h1, a, s1, t1, d1, r1⟩ := hg β w s
  obtain ⟨h2, a2, s2, t2, d2, r2⟩ := hm h1 a β w s1
  exact ⟨h2, a2, s2, t1.trans t2, d2.trans d1, r1.trans r2⟩
theorem CallsH.gx {P f args h} {R R' : Value → H → Prop} (hc : CallsH P f args h R) (hr : ∀ v h', R v h' → GhostX h' (R' v)) : CallsH P f args h R' :=
  ⟨hc.1, fun β w hs => (hc.2 β w hs).mono fun _ _ ⟨v, h', a, ⟨b1, b2⟩, c, d, r⟩ => by
    obtain ⟨h2, a2, s2, t2, d2, r2⟩ := hr _ _ r β _ c
    exact ⟨v, h2, a, ⟨d2.trans b1, b2.trans r2⟩, s2, d.trans t2, a2⟩⟩
section rules
variable {r : Option Nat} {P : Program} {N : Nat} {rs vs : List Nat} {Q : Exit → Env → H → Prop} {e : Env} {h : H} {fr : List Td}
theorem wpH_gx {c : Code} {M : H → Prop} (hg : GhostX h M) (hc : ∀ h', M h' → wpH r P N rs vs c Q e h') : wpH r P N rs vs c Q e h := by
  intro β a w hr hs
  obtain ⟨h', m, g1, g2, g3, g4⟩ := hg β w hs
  refine wpIn_mono (hc h' m β a w (hr.to g4 g3) g1) ?_
  rintro x a' w' ⟨β', e', h'', r', s', st', q⟩
  exact ⟨β', e', h'', r', s', g2.trans st', q⟩
theorem go_gx {M : H → Prop} {s : SC} (hg : GhostX h M) (hk : ∀ h', M h' → go r P N rs vs Q (.s s :: fr) e h') : go r P N rs vs Q (.s s :: fr) e h := fun c hs => wpH_gx hg fun h' m => hk h' m c hs
end rules

theorem add_mk (b j : Nat) : Addr.add ⟨b, 0, none⟩ j = ⟨b, j, none⟩ := by
  unfold Addr.add
  split
  · rename_i h; subst h; rfl
  · simp
theorem cellG_mk (G : Nat → Option Obj) (b j : Nat) (c : Array Value) (t : TypeId) (z : Nat × Nat) : cellG (fun i => if i = b then some (.cells c t z) else G i) ⟨b, j, none⟩ = c[j]? := by
  simp [cellG]
/-- A block that nobody writes any more. -/
theorem gx_blk {G : Nat → Option Obj} {L : List Item} {D : List Nat} {b : Nat} {cs : List Value} :
    GhostX ⟨G, .blk b cs :: L, D⟩ fun h' => ∃ G', h' = ⟨G', L, D⟩ ∧ Gle G G' ∧ ∀ j u, cs[j]? = some u → cellG G' (Addr.add ⟨b, 0, none⟩ j) = some u := fun β w s => by
  obtain ⟨t, ht⟩ := s.l (.blk b cs) (List.mem_cons_self ..)
  obtain ⟨s1, st⟩ := sat_freeze s (b := b) rfl ht
  refine ⟨_, ⟨_, rfl, st.gm, fun j u hu => ?_⟩, s1, st, rfl, fun s cs h => ⟨cs, List.mem_cons_of_mem _ h⟩⟩
  rw [add_mk, cellG_mk]; simpa using hu
/-- A slice that nobody writes any more. -/
theorem gx_row {G : Nat → Option Obj} {L : List Item} {D : List Nat} {v : Value} {et : TypeId} {sz n : Nat} {xs : List Value} :
    GhostX ⟨G, .row v et sz n xs :: L, D⟩ fun h' => ∃ G', h' = ⟨G', L, D⟩ ∧ Gle G G' ∧ xs.length = n * sz ∧ ∃ A c, v = .slice A n c ∧ n ≤ c ∧ c ≤ maxLen ∧ ∀ j u, xs[j]? = some u → ∃ a, A = some a ∧ cellG G' (a.add j) = some u := fun β w s => by
  obtain ⟨hl, hok⟩ := s.l (.row v et sz n xs) (List.mem_cons_self ..)
  rcases hok with ⟨A, rfl, rfl⟩ | ⟨g, cap, cur, rfl, hc, hg, hn, hm, hsz, htk⟩
  · have hx : xs = [] := by simpa using hl
    subst hx
    obtain ⟨s1, st, d1, r1⟩ := ghost_sub (G := G) (D := D) (List.sublist_cons_self (.row (.slice A 0 0) et sz 0 []) L) β w s
    refine ⟨_, ⟨G, rfl, .refl G, by simp, A, 0, rfl, Nat.le_refl _, Nat.zero_le _, fun j u hu => by simp at hu⟩, s1, st, d1, r1⟩
  · have hc' : ¬ cap = 0 := by omega
    obtain ⟨s1, st⟩ := sat_freeze s (b := g) (by simp [Item.block, rowBlock, hc']) hg
    refine ⟨_, ⟨_, rfl, st.gm, hl, _, _, rfl, hn, hm, fun j u hu => ⟨_, rfl, ?_⟩⟩, s1, st, rfl, fun s cs h => ⟨cs, List.mem_cons_of_mem _ h⟩⟩
    subst htk
    rw [List.getElem?_take] at hu
    split at hu
    · rw [add_mk, cellG_mk]
      simpa using hu
    · cases hu
/-- How the cells of elements stand, one behind the other. -/
inductive Cells {α : Type} (E : α → List Value → Prop) (sz : Nat) : List α → List Value → Prop
  | nil : Cells E sz [] []
  | cons {x : α} {xs : List α} {cs ys : List Value} (hE : E x cs) (hl : cs.length = sz) (ht : Cells E sz xs ys) : Cells E sz (x :: xs) (cs ++ ys)
namespace Cells
variable {α : Type} {E : α → List Value → Prop} {sz : Nat} {xs xs' : List α} {ys ys' : List Value}
theorem len (h : Cells E sz xs ys) : ys.length = xs.length * sz := by
  induction h with
  | nil => simp
  | cons hE hl ht ih => rw [List.length_append, ih, hl, List.length_cons, Nat.add_mul, Nat.one_mul, Nat.add_comm]
theorem app (h : Cells E sz xs ys) (h' : Cells E sz xs' ys') : Cells E sz (xs ++ xs') (ys ++ ys') := by
  induction h with
  | nil => exact h'
  | cons hE hl ht ih => rw [List.append_assoc]; exact .cons hE hl ih
theorem one {x : α} {cs : List Value} (hE : E x cs) (hl : cs.length = sz) : Cells E sz [x] cs := by
  have := Cells.cons hE hl .nil
  simpa using this
/-- Two lists at a place. -/
theorem split (h : Cells E sz xs ys) (k : Nat) (hk : k ≤ xs.length) : Cells E sz (xs.take k) (ys.take (k * sz)) ∧ Cells E sz (xs.drop k) (ys.drop (k * sz)) := by
  induction h generalizing k with
  | nil => simp at hk; subst hk; simp; exact .nil
  | cons hE hl ht ih =>
    cases k with
    | zero => simp; exact ⟨.nil, .cons hE hl ht⟩
    | succ k =>
      obtain ⟨a, b⟩ := ih k (by simpa using hk)
      rename_i cs ys
      have e1 : (k + 1) * sz = cs.length + k * sz := by rw [Nat.add_mul, Nat.one_mul, hl, Nat.add_comm]
      rw [e1, List.take_length_add_append, List.drop_length_add_append]
      exact ⟨.cons hE hl a, b⟩
theorem get (h : Cells E sz xs ys) {k : Nat} {x : α} (hx : xs[k]? = some x) : ∃ cs, E x cs ∧ cs.length = sz ∧ ∀ o u, cs[o]? = some u → ys[k * sz + o]? = some u := by
  induction h generalizing k with
  | nil => simp at hx
  | cons hE hl ht ih =>
    rename_i x0 xs0 cs0 ys0
    cases k with
    | zero =>
      simp at hx
      subst hx
      refine ⟨_, hE, hl, fun o u hu => ?_⟩
      rw [Nat.zero_mul, Nat.zero_add, List.getElem?_append_left (List.getElem?_eq_some_iff.1 hu).1]
      exact hu
    | succ k =>
      obtain ⟨cs, a, b, c⟩ := ih (by simpa using hx)
      refine ⟨cs, a, b, fun o u hu => ?_⟩
      have e1 : (k + 1) * sz + o = cs0.length + (k * sz + o) := by rw [Nat.add_mul, Nat.one_mul, hl]; omega
      rw [e1, List.getElem?_append_right (by omega), Nat.add_sub_cancel_left]
      exact c o u hu
theorem slA {G : Nat → Option Obj} {A : Option Addr} (h : Cells E sz xs ys) (hc : ∀ j u, ys[j]? = some u → ∃ a, A = some a ∧ cellG G (a.add j) = some u) (h0 : 0 < sz) : SlA G E sz A xs := fun i x hx => by
  obtain ⟨cs, h1, h2, h3⟩ := h.get hx
  obtain ⟨a, ha, _⟩ := hc (i * sz + 0) _ (h3 0 (cs[0]'(by omega)) (List.getElem?_eq_getElem (by omega)))
  refine ⟨a, cs, ha, h2, h1, fun j u hu => ?_⟩
  obtain ⟨a', ha', hc'⟩ := hc _ u (h3 j u hu)
  rw [ha] at ha'
  cases ha'
  exact hc'
end Cells
/-- A slice that the function owns, that holds a list. -/
theorem gx_slv {α : Type} {E : α → List Value → Prop} {G : Nat → Option Obj} {L : List Item} {D : List Nat} {v : Value} {et : TypeId} {sz n : Nat} {ys : List Value} {xs : List α} (h0 : 0 < sz) (hc : Cells E sz xs ys) :
    GhostX ⟨G, .row v et sz n ys :: L, D⟩ fun h' => ∃ G', h' = ⟨G', L, D⟩ ∧ Gle G G' ∧ SlV G' E sz v xs := gx_row.mono fun h' ⟨G', h1, h2, h3, A, c, h4, h5, h6, h7⟩ => by
  have hn : n = xs.length := by
    have := hc.len
    rw [h3] at this
    exact Nat.eq_of_mul_eq_mul_right h0 this
  subst hn
  exact ⟨G', h1, h2, A, c, h4, h5, h6, hc.slA h7 h0⟩
/-- The cells of a list that stays as it is, as what is appended. -/
theorem SlA.cells {α : Type} {E : α → List Value → Prop} {sz : Nat} {G : Nat → Option Obj} {A : Option Addr} {xs : List α} (h : SlA G E sz A xs) (hxs : xs ≠ [] → ∃ a, A = some a) :
    ∃ ys, Cells E sz xs ys ∧ ∀ j u, ys[j]? = some u → ∃ a, A = some a ∧ cellG G (a.add j) = some u := by
  induction xs generalizing A with
  | nil => exact ⟨[], .nil, fun j u hu => by simp at hu⟩
  | cons x xs ih =>
    obtain ⟨a, cs, ha, h1, h2, h3⟩ := h 0 x rfl
    subst ha
    obtain ⟨ys, h4, h5⟩ := ih (A := some (a.add sz)) (fun i y hy => by
      obtain ⟨a', cs', ha', g1, g2, g3⟩ := h (i + 1) y (by simpa using hy)
      cases ha'
      refine ⟨_, cs', rfl, g1, g2, fun j u hu => ?_⟩
      have := g3 j u hu
      rw [add_of_add]
      rw [← this]
      congr 2
      rw [Nat.add_mul, Nat.one_mul]
      omega) (fun _ => ⟨_, rfl⟩)
    refine ⟨cs ++ ys, .cons h2 h1 h4, fun j u hu => ⟨a, rfl, ?_⟩⟩
    rw [List.getElem?_append] at hu
    split at hu
    · have := h3 j u hu
      rwa [Nat.zero_mul, Nat.zero_add] at this
    · obtain ⟨a', ha', hc⟩ := h5 _ u hu
      cases ha'
      rw [add_of_add] at hc
      rw [← hc]
      congr 2
      omega
theorem SlV.src {α : Type} {E : α → List Value → Prop} {sz : Nat} {G : Nat → Option Obj} {v : Value} {xs : List α} (h : SlV G E sz v xs) (L : List Item) (D : List Nat) (h1 : ∀ x cs, E x cs → ∀ u ∈ cs, u.oneCell' = true) :
    ∃ ys, Cells E sz xs ys ∧ SrcH ⟨G, L, D⟩ v sz xs.length ys := by
  obtain ⟨A, c, rfl, hc, hm, hA⟩ := h
  have hone : ∀ {xs : List α} {ys : List Value}, Cells E sz xs ys → ∀ u ∈ ys, u.oneCell' = true := fun hcs => by
    induction hcs with
    | nil => simp
    | cons hE hl ht ih =>
      intro u hu
      rcases List.mem_append.1 hu with h | h
      · exact h1 _ _ hE u h
      · exact ih u h
  obtain ⟨ys, h2, h3⟩ := hA.cells (fun hne => by
    match xs, hne with
    | x :: xs, _ =>
      obtain ⟨a, _, ha, _⟩ := hA 0 x rfl
      exact ⟨a, ha⟩)
  refine ⟨ys, h2, hone h2, h2.len, ?_⟩
  cases A with
  | none =>
    refine .inl ⟨c, ?_, ?_⟩
    · match xs, hA with
      | [], _ => rfl
      | x :: xs, hA => obtain ⟨a, _, ha, _⟩ := hA 0 x rfl; cases ha
    · match xs, hA with
      | [], _ => rfl
      | x :: xs, hA => obtain ⟨a, _, ha, _⟩ := hA 0 x rfl; cases ha
  | some a =>
    refine .inr (.inl ⟨a, c, rfl, fun j u hu => ?_⟩)
    obtain ⟨a', ha', hc'⟩ := h3 j u hu
    cases ha'
    exact .g hc'

section forms
variable {P : Program} {f : FuncId} {args : Array Value} {G : Nat → Option Obj} {rl : List RS}
/-- What is handed over stays as it is. -/
theorem FnO.fnD {L1 : List Item} {R : (Nat → Option Obj) → List Item → Value → Prop} {R' : (Nat → Option Obj) → Value → Prop} (hf : FnO P f args G [] R)
    (hr : ∀ G' L' v, R G' L' v → Gle G G' → ∀ L D, GhostX ⟨G', L' ++ L, D⟩ fun h' => ∃ G2, h' = ⟨G2, L, D⟩ ∧ Gle G' G2 ∧ R' G2 v) : FnD P f args G R' := fun L D =>
  (hf L D).gx fun v h' ⟨G', L', he, hg, hR⟩ => by
    subst he
    exact (hr G' L' v hR hg L D).mono fun h' ⟨G2, h1, h2, h3⟩ => ⟨G2, h1, hg.trans h2, h3⟩
theorem retQ_o {e : Env} {h : H} {R : Value → H → Prop} {out : List Value} (L' : List Item) (hr : resV e h rl = some out) (hs : L'.Sublist h.L) (hn : NoRegs L') (hv : R (tupV out) ⟨h.G, L', []⟩) : retQ rl R .ret e h :=
  ⟨out, hr, ⟨h.G, L', []⟩, ghost_sub hs, hn, hv⟩
theorem noRegs_blk {b : Nat} {cs : List Value} {L : List Item} (h : NoRegs L) : NoRegs (.blk b cs :: L) := fun s cs' hm => by
  rcases List.mem_cons.1 hm with h' | h'
  · cases h'
  · exact h s cs' h'
theorem noRegs_row {v : Value} {et : TypeId} {sz n : Nat} {xs : List Value} {L : List Item} (h : NoRegs L) : NoRegs (.row v et sz n xs :: L) := fun s cs' hm => by
  rcases List.mem_cons.1 hm with h' | h'
  · cases h'
  · exact h s cs' h'
end forms
end Go.Kx
