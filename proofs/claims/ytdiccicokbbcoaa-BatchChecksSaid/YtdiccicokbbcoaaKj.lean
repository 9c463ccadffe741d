/- The nineteenth text of the small logic: elements, loaded and stored. No condition. -/
import Derived.Test.YtdiccicokbbcoaaKi
set_option linter.unusedSimpArgs false
set_option linter.unusedVariables false
namespace Go.Kx
open Go Go.RowKit

theorem GhostX.fact {h : H} {p : Prop} (hf : ∀ β w, Sat β h w → p) : GhostX h fun h' => h' = h ∧ p := fun β w s => ⟨h, ⟨rfl, hf β w s⟩, s, .refl _ _ _, rfl, .refl _⟩
/-- A slice that is owned and not empty stands in a block of its own. -/
theorem gx_know {h : H} {v : Value} {et : TypeId} {sz n : Nat} {xs : List Value} (hm : Item.row v et sz n xs ∈ h.L) (hn : 0 < n) :
    GhostX h fun h' => h' = h ∧ ∃ g c, v = .slice (some ⟨g, 0, none⟩) n c ∧ n ≤ c ∧ c ≤ maxLen := GhostX.fact fun β w s => by
  obtain ⟨hl, hok⟩ := s.l _ hm
  rcases hok with ⟨A, rfl, rfl⟩ | ⟨g, cap, cur, rfl, hc, hg, hn, hm, hsz, htk⟩
  · omega
  · exact ⟨g, cap, rfl, hn, hm⟩
theorem gx_knowS {h : H} {v : Value} {et : TypeId} {sz n : Nat} {xs : List Value} (hm : Item.row v et sz n xs ∈ h.L) :
    GhostX h fun h' => h' = h ∧ ∃ A c, v = .slice A n c ∧ n ≤ c ∧ c ≤ maxLen := GhostX.fact fun β w s => by
  obtain ⟨hl, hok⟩ := s.l _ hm
  rcases hok with ⟨A, rfl, rfl⟩ | ⟨g, cap, cur, rfl, hc, hg, hn, hm, hsz, htk⟩
  · exact ⟨A, 0, rfl, Nat.le_refl _, Nat.zero_le _⟩
  · exact ⟨_, cap, rfl, hn, hm⟩
section loads
variable {α : Type} {G : Nat → Option Obj} {E : α → List Value → Prop} {sz : Nat} {A : Option Addr} {xs : List α} {P : Program} {h : H} {d : Nat} {l : List SI}
theorem SlA.lt {k : Nat} {x : α} (hx : xs[k]? = some x) : (k : Int) < xs.length := by
  have := (List.getElem?_eq_some_iff.1 hx).1
  omega
theorem SlA.x_ld {K : Env → H → Prop} {e : Addr → Env} {j : Int} {k : Nat} {x : α} (hA : SlA G E sz A xs) (hx : xs[k]? = some x) (hj : j = k) (hG : h.G = G)
    (hk : ∀ a, A = some a → ∀ cs, E x cs → kR P l d (e a) K (.agg cs.toArray) h) : (0 ≤ j ∧ j < xs.length) ∧ ∃ a, A = some a ∧ ldX P (.pointer (some (a.add (j.toNat * sz)))) (some sz) d l (e a) h K := by
  obtain ⟨G', L, D⟩ := h
  dsimp only at hG
  subst hG
  obtain ⟨a, cs, ha, hE, _, hld, _⟩ := hA.at_ hx L D
  have := SlA.lt hx
  subst hj
  exact ⟨by omega, a, ha, _, by simpa using hld, hk a ha cs hE⟩
theorem SlA.x_lf {K : Env → H → Prop} {e : Addr → Env} {j : Int} {k o : Nat} {u : Value} {x : α} (hA : SlA G E sz A xs) (hx : xs[k]? = some x) (hj : j = k) (hG : h.G = G) (hu : ∀ cs, E x cs → cs[o]? = some u)
    (hk : ∀ a, A = some a → kR P l d (e a) K u h) : (0 ≤ j ∧ j < xs.length) ∧ ∃ a, A = some a ∧ ldX P (.pointer (some ((a.add (j.toNat * sz)).add o))) none d l (e a) h K := by
  obtain ⟨G', L, D⟩ := h
  dsimp only at hG
  subst hG
  obtain ⟨a, cs, ha, hE, _, _, hld⟩ := hA.at_ hx L D
  have := SlA.lt hx
  subst hj
  exact ⟨by omega, a, ha, _, by simpa using hld o u (hu cs hE), hk a ha⟩
theorem SlA.x_l1 {K : Env → H → Prop} {e : Addr → Env} {j : Int} {k : Nat} {x : α} (hA : SlA G E 1 A xs) (hx : xs[k]? = some x) (hj : j = k) (hG : h.G = G)
    (hk : ∀ a, A = some a → ∀ u, E x [u] → kR P l d (e a) K u h) : (0 ≤ j ∧ j < xs.length) ∧ ∃ a, A = some a ∧ ldX P (.pointer (some (a.add (j.toNat * 1)))) none d l (e a) h K := by
  obtain ⟨G', L, D⟩ := h
  dsimp only at hG
  subst hG
  obtain ⟨a, u, ha, hE, hld⟩ := hA.at1 hx L D
  have := SlA.lt hx
  subst hj
  exact ⟨by omega, a, ha, _, by simpa using hld, hk a ha u hE⟩
theorem SlA.y_ld {K : Env → Prop} {e : Addr → Env} {j : Int} {k : Nat} {x : α} (hA : SlA G E sz A xs) (hx : xs[k]? = some x) (hj : j = k) (hG : h.G = G)
    (hk : ∀ a, A = some a → ∀ cs, E x cs → kQ P l d (e a) h K (.agg cs.toArray)) : (0 ≤ j ∧ j < xs.length) ∧ ∃ a, A = some a ∧ lqX P (.pointer (some (a.add (j.toNat * sz)))) (some sz) d l (e a) h K := by
  obtain ⟨G', L, D⟩ := h
  dsimp only at hG
  subst hG
  obtain ⟨a, cs, ha, hE, _, hld, _⟩ := hA.at_ hx L D
  have := SlA.lt hx
  subst hj
  exact ⟨by omega, a, ha, _, by simpa using hld, hk a ha cs hE⟩
theorem SlA.y_lf {K : Env → Prop} {e : Addr → Env} {j : Int} {k o : Nat} {u : Value} {x : α} (hA : SlA G E sz A xs) (hx : xs[k]? = some x) (hj : j = k) (hG : h.G = G) (hu : ∀ cs, E x cs → cs[o]? = some u)
    (hk : ∀ a, A = some a → kQ P l d (e a) h K u) : (0 ≤ j ∧ j < xs.length) ∧ ∃ a, A = some a ∧ lqX P (.pointer (some ((a.add (j.toNat * sz)).add o))) none d l (e a) h K := by
  obtain ⟨G', L, D⟩ := h
  dsimp only at hG
  subst hG
  obtain ⟨a, cs, ha, hE, _, _, hld⟩ := hA.at_ hx L D
  have := SlA.lt hx
  subst hj
  exact ⟨by omega, a, ha, _, by simpa using hld o u (hu cs hE), hk a ha⟩
theorem SlA.y_l1 {K : Env → Prop} {e : Addr → Env} {j : Int} {k : Nat} {x : α} (hA : SlA G E 1 A xs) (hx : xs[k]? = some x) (hj : j = k) (hG : h.G = G)
    (hk : ∀ a, A = some a → ∀ u, E x [u] → kQ P l d (e a) h K u) : (0 ≤ j ∧ j < xs.length) ∧ ∃ a, A = some a ∧ lqX P (.pointer (some (a.add (j.toNat * 1)))) none d l (e a) h K := by
  obtain ⟨G', L, D⟩ := h
  dsimp only at hG
  subst hG
  obtain ⟨a, u, ha, hE, hld⟩ := hA.at1 hx L D
  have := SlA.lt hx
  subst hj
  exact ⟨by omega, a, ha, _, by simpa using hld, hk a ha u hE⟩
end loads
/-- An append to a slice that is owned, or has no room, of a list that stays as it is. -/
theorem apX_v {α : Type} {E : α → List Value → Prop} {G : Nat → Option Obj} {P : Program} {h : H} {d : Nat} {l : List SI} {e : Env} {K : Env → H → Prop} {sz et nb n : Nat} {x y : Value} {xs : List α} {L1 L2 : List Item} {zs : List Value}
    (hr : RowAt h.L x et sz L1 n zs L2) (hy : SlV G E sz y xs) (hG : h.G = G) (h1 : ∀ x cs, E x cs → ∀ u ∈ cs, u.oneCell' = true) (hb : (n + xs.length) * nb ≤ 140737488355328 ∧ n + xs.length ≤ maxLen)
    (hk : ∀ ys A c, Cells E sz xs ys → kR P l d e K (.slice A (n + xs.length) c) { h with L := L1 ++ .row (.slice A (n + xs.length) c) et sz (n + xs.length) (zs ++ ys) :: L2 }) : apX P x y et sz nb d l e h K := by
  obtain ⟨G', L, D⟩ := h
  dsimp only at hG
  subst hG
  obtain ⟨ys, hc, hs⟩ := hy.src L D h1
  exact ⟨L1, n, zs, L2, xs.length, ys, hr, hs, hb, fun A c => hk ys A c hc⟩
/-- Part of a slice that is owned. -/
theorem ghost_cut {G : Nat → Option Obj} {L1 L2 : List Item} {D : List Nat} {A : Option Addr} {n c m et sz : Nat} {xs : List Value} (hm : m ≤ n) :
    Ghost ⟨G, L1 ++ .row (.slice A n c) et sz n xs :: L2, D⟩ ⟨G, L1 ++ .row (.slice A m c) et sz m (xs.take (m * sz)) :: L2, D⟩ := fun β w s => by
  obtain ⟨hl, hok⟩ := s.l (.row (.slice A n c) et sz n xs) (by simp)
  have hmn : m * sz ≤ n * sz := Nat.mul_le_mul_right _ hm
  have hblk : ∀ b, rowBlock (.slice A m c) = some b → rowBlock (.slice A n c) = some b := fun b h => by
    cases A with
    | none => simp [rowBlock] at h
    | some a => exact h
  obtain ⟨s1, s2⟩ := sat_swap (it' := .row (.slice A m c) et sz m (xs.take (m * sz))) s rfl rfl rfl (Nat.le_refl _) (fun _ _ _ => rfl) (by
    refine ⟨by rw [List.length_take, hl, Nat.min_eq_left hmn], ?_⟩
    rcases hok with ⟨A', hA, rfl⟩ | ⟨g, cap, cur, hA, h1, h2, h3, h4, h5, h6⟩
    · cases hA
      have : m = 0 := by omega
      subst this
      exact .inl ⟨A, rfl, rfl⟩
    · cases hA
      refine .inr ⟨g, c, cur, rfl, h1, h2, by omega, h4, h5, ?_⟩
      rw [← h6, List.take_take, Nat.min_eq_left hmn]) (fun b hb => .inl (hblk b hb))
  exact ⟨s1, s2, rfl, regs_append (fun _ _ hc => by cases hc)⟩
/-- What is owned, as what is appended. -/
theorem srcH_row {h : H} {g n c et sz m : Nat} {ys : List Value} (hm : Item.row (.slice (some ⟨g, 0, none⟩) n c) et sz m ys ∈ h.L) (h1 : ∀ u ∈ ys, u.oneCell' = true) (h2 : ys.length = n * sz) : SrcH h (.slice (some ⟨g, 0, none⟩) n c) sz n ys :=
  ⟨h1, h2, .inr (.inl ⟨_, c, rfl, fun j u hu => by rw [add_mk]; exact .row hm hu⟩)⟩
theorem ldN_row {h : H} {g n c et sz m i : Nat} {ys : List Value} {v : Value} (hm : Item.row (.slice (some ⟨g, 0, none⟩) n c) et sz m ys ∈ h.L) (hv : ys[i]? = some v) : LdN h (.pointer (some ⟨g, i, none⟩)) none v :=
  ⟨_, rfl, .row hm hv⟩
theorem add_off (b i j : Nat) : Addr.add ⟨b, i, none⟩ j = ⟨b, i + j, none⟩ := by
  unfold Addr.add
  split
  · rename_i h; subst h; rfl
  · rfl
theorem stX_row {P : Program} {h : H} {K : Env → H → Prop} {l : List SI} {e : Env} {g o n' c et sz n k : Nat} {xs ys : List Value} (L1 L2 : List Item) (hL : h.L = L1 ++ .row (.slice (some ⟨g, 0, none⟩) n' c) et sz n ys :: L2) (ho : o + xs.length ≤ ys.length)
    (h1 : xs.length = k ∧ xs.all (·.oneCell') = true) (hk : regionH P l e { h with L := L1 ++ .row (.slice (some ⟨g, 0, none⟩) n' c) et sz n (splice ys o xs) :: L2 } K) : stX P (.pointer (some ⟨g, o, none⟩)) xs k l e h K := by
  refine ⟨_, ?_, h1, hk⟩
  rw [hL]
  exact .row L1 ho
theorem Cells.set {α : Type} {E : α → List Value → Prop} {sz : Nat} {xs : List α} {ys : List Value} (h : Cells E sz xs ys) {k : Nat} {x : α} {cs : List Value} (hk : k < xs.length) (hE : E x cs) (hl : cs.length = sz) : Cells E sz (xs.set k x) (splice ys (k * sz) cs) := by
  obtain ⟨a, -⟩ := h.split k (by omega)
  obtain ⟨-, b⟩ := h.split (k + 1) (by omega)
  have : splice ys (k * sz) cs = ys.take (k * sz) ++ (cs ++ ys.drop ((k + 1) * sz)) := by
    rw [splice, hl, Nat.add_mul, Nat.one_mul, List.append_assoc]
  rw [this, List.set_eq_take_append_cons_drop, if_pos hk]
  exact a.app (.cons hE hl b)
theorem Cells.one1 {α : Type} {E : α → List Value → Prop} {sz : Nat} {xs : List α} {ys : List Value} (h : Cells E sz xs ys) (h1 : ∀ x cs, E x cs → ∀ u ∈ cs, u.oneCell' = true) : ∀ u ∈ ys, u.oneCell' = true := by
  induction h with
  | nil => simp
  | cons hE hl ht ih =>
    intro u hu
    rcases List.mem_append.1 hu with h | h
    · exact h1 _ _ hE u h
    · exact ih u h
theorem len_i (n : Nat) (hn : 0 < n) (hm : n ≤ maxLen) : IntKind.i64.wrap ((n : Int) - 1) = ((n - 1 : Nat) : Int) := by
  unfold maxLen at hm
  rw [w64_id] <;> omega
def slY (P : Program) (A : Option Addr) (c : Nat) (lw u m : Option Int) (sz d : Nat) (l : List SI) (e : Env) (h : H) (K : Env → H → Prop) : Prop :=
  match lw, u, m with
  | some lw, some u, some m => (0 ≤ lw ∧ lw ≤ u ∧ u ≤ m ∧ m ≤ c) ∧ kR P l d e K (.slice (if m.toNat = lw.toNat then A else A.map (·.add (lw.toNat * sz))) (u.toNat - lw.toNat) (m.toNat - lw.toNat)) h
  | _, _, _ => False
def sqY (P : Program) (A : Option Addr) (c : Nat) (lw u m : Option Int) (sz d : Nat) (l : List SI) (e : Env) (h : H) (K : Env → Prop) : Prop :=
  match lw, u, m with
  | some lw, some u, some m => (0 ≤ lw ∧ lw ≤ u ∧ u ≤ m ∧ m ≤ c) ∧ kQ P l d e h K (.slice (if m.toNat = lw.toNat then A else A.map (·.add (lw.toNat * sz))) (u.toNat - lw.toNat) (m.toNat - lw.toNat))
  | _, _, _ => False
section slicing
variable {P : Program} {A : Option Addr} {n c sz d : Nat} {l : List SI} {e : Env} {h : H} {K : Env → H → Prop} {Kq : Env → Prop} {lo hi mx : Option O}
theorem slX_s : slX P (.slice A n c) lo hi mx sz d l e h K = slY P A c (bnd e 0 lo) (bnd e n hi) (bnd e c mx) sz d l e h K := rfl
theorem sqX_s : sqX P (.slice A n c) lo hi mx sz d l e h Kq = sqY P A c (bnd e 0 lo) (bnd e n hi) (bnd e c mx) sz d l e h Kq := rfl
theorem slY_0 {u m : Int} : slY P A c (some 0) (some u) (some m) sz d l e h K = ((0 ≤ u ∧ u ≤ m ∧ m ≤ c) ∧ kR P l d e K (.slice A u.toNat m.toNat) h) := by
  have : (if m.toNat = (0 : Int).toNat then A else A.map (·.add ((0 : Int).toNat * sz))) = A := by
    split
    · rfl
    · cases A <;> simp [Addr.add]
  simp only [slY, this]
  simp
theorem sqY_0 {u m : Int} : sqY P A c (some 0) (some u) (some m) sz d l e h Kq = ((0 ≤ u ∧ u ≤ m ∧ m ≤ c) ∧ kQ P l d e h Kq (.slice A u.toNat m.toNat)) := by
  have : (if m.toNat = (0 : Int).toNat then A else A.map (·.add ((0 : Int).toNat * sz))) = A := by
    split
    · rfl
    · cases A <;> simp [Addr.add]
  simp only [sqY, this]
  simp
theorem slY_i {lw u m : Int} : slY P A c (some lw) (some u) (some m) sz d l e h K = ((0 ≤ lw ∧ lw ≤ u ∧ u ≤ m ∧ m ≤ c) ∧ kR P l d e K (.slice (if m.toNat = lw.toNat then A else A.map (·.add (lw.toNat * sz))) (u.toNat - lw.toNat) (m.toNat - lw.toNat)) h) := rfl
theorem sqY_i {lw u m : Int} : sqY P A c (some lw) (some u) (some m) sz d l e h Kq = ((0 ≤ lw ∧ lw ≤ u ∧ u ≤ m ∧ m ≤ c) ∧ kQ P l d e h Kq (.slice (if m.toNat = lw.toNat then A else A.map (·.add (lw.toNat * sz))) (u.toNat - lw.toNat) (m.toNat - lw.toNat))) := rfl
theorem bnd_n (e : Env) (j : Int) : bnd e j none = some j := rfl
theorem bnd_s (e : Env) (j : Int) (o : O) : bnd e j (some o) = intV (ev e o) := rfl
theorem intV_i (k : IntKind) (j : Int) : intV (.int k j) = some j := rfl
end slicing
attribute [push_cast] slX_s sqX_s slY_0 sqY_0 bnd_n bnd_s intV_i
theorem alX_e {P : Program} {cs : List Value} {d : Nat} {l : List SI} {e : Env} {h : H} {K : Env → H → Prop} : alX P cs d l e h K = ∀ b, h.G b = none → kR P l d e K (.pointer (some ⟨b, 0, none⟩)) { h with L := .blk b cs :: h.L } := rfl
attribute [push_cast] alX_e
theorem isnV_e (A : Option Addr) (n c : Nat) : isnV false (.slice A n c) = some (.bool A.isNone) := rfl
theorem isnV_n (A : Option Addr) (n c : Nat) : isnV true (.slice A n c) = some (.bool A.isSome) := rfl
theorem lenV_s (A : Option Addr) (n c : Nat) : lenV false (.slice A n c) = some (.int .i64 n) := rfl
attribute [push_cast] add_off isnV_e isnV_n Option.isNone_none Option.isNone_some Option.isSome_none Option.isSome_some
end Go.Kx
