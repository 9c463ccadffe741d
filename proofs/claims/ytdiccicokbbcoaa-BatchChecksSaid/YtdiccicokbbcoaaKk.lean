/- The twentieth text of the small logic: what is owned, lent to a call that only reads. No condition. -/
import Derived.Test.YtdiccicokbbcoaaKj
set_option linter.unusedSimpArgs false
set_option linter.unusedVariables false
namespace Go.Kx
open Go Go.RowKit

theorem CallsH.ghost {P f args h h'} {R : Value → H → Prop} (hg : Ghost h h') (hc : CallsH P f args h' R) : CallsH P f args h R :=
  ⟨hc.1, fun β w hs => by
    obtain ⟨s1, t1, d1, r1⟩ := hg β w hs
    exact (hc.2 β w s1).mono fun _ _ ⟨v, h2, a, ⟨b1, b2⟩, c, d, r⟩ => ⟨v, h2, a, ⟨b1.trans d1, r1.trans b2⟩, c, t1.trans d, r⟩⟩
theorem Fun.enters {P : Program} {f : FuncId} {N : Nat} {V : List Nat × List Nat} {s : SC} {rl : List RS} (hf : Fun P f N V s rl) : Enters P f := by
  obtain ⟨_, _, _, _, _, _, _, h⟩ := hf.ok
  exact h
/-- A slice that is owned, lent to a call that leaves all as it is. -/
theorem lend1 {α : Type} {E : α → List Value → Prop} {P f args} {G : Nat → Option Obj} {L : List Item} {D : List Nat} {R : Value → Prop} {v : Value} {et sz n : Nat} {ys : List Value} {xs : List α} (hE : Enters P f) (h0 : 0 < sz) (hc : Cells E sz xs ys)
    (hf : ∀ G', Gle G G' → SlV G' E sz v xs → CallsH P f args ⟨G', L, D⟩ fun r h' => R r ∧ h' = ⟨G', L, D⟩) :
    CallsH P f args ⟨G, .row v et sz n ys :: L, D⟩ fun r h' => R r ∧ h' = ⟨G, .row v et sz n ys :: L, D⟩ :=
  ⟨hE, fun β w hs => by
    obtain ⟨h1, ⟨G', rfl, hg, hv⟩, s1, t1, d1, r1⟩ := gx_slv (et := et) h0 hc β w hs
    refine ((hf G' hg hv).2 β w s1).mono ?_
    rintro x w' ⟨r, h2, rfl, ⟨b1, b2⟩, s2, t2, hr, rfl⟩
    refine ⟨r, _, rfl, ⟨rfl, .refl _⟩, ?_, ?_, hr, rfl⟩
    · refine ⟨fun b o ho => s2.g b o (hg b o ho), fun it hit => ?_, hs.nd, hs.df, s2.d⟩
      rcases List.mem_cons.1 hit with rfl | hit
      · refine Item.ok_of (hs.l _ (List.mem_cons_self ..)) (fun b hb => ?_) rfl
        have hlt : b < w.heap.size := Item.ok_lt (hs.l _ (List.mem_cons_self ..)) hb
        refine t2.old b hlt fun hm => ?_
        have hnd := hs.nd
        simp only [dom_cons, hb] at hnd
        simp only [Option.toList_some, List.singleton_append, List.cons_append, List.nodup_cons] at hnd
        exact hnd.1 (List.mem_append_left _ hm)
      · exact s2.l it hit
    · exact ⟨t2.os, t2.tape, t2.output, t2.size, fun b hb hn => t2.old b hb fun hm => hn (by rw [dom_cons]; exact List.mem_append_right _ hm), fun _ _ h => h, fun _ h h' => absurd h h', fun _ h => .inl h, [], rfl, by simp⟩⟩
theorem lend {α : Type} {E : α → List Value → Prop} {P f args} {G : Nat → Option Obj} {D : List Nat} {R : Value → Prop} {v : Value} {et sz n : Nat} {ys : List Value} {xs : List α} (L1 L2 : List Item) (hE : Enters P f) (h0 : 0 < sz) (hc : Cells E sz xs ys)
    (hf : ∀ G', Gle G G' → SlV G' E sz v xs → CallsH P f args ⟨G', L1 ++ L2, D⟩ fun r h' => R r ∧ h' = ⟨G', L1 ++ L2, D⟩) :
    CallsH P f args ⟨G, L1 ++ .row v et sz n ys :: L2, D⟩ fun r h' => R r ∧ h' = ⟨G, L1 ++ .row v et sz n ys :: L2, D⟩ := by
  have hp : (L1 ++ .row v et sz n ys :: L2).Perm (.row v et sz n ys :: (L1 ++ L2)) := List.perm_middle
  refine (CallsH.ghost (ghost_perm hp) (lend1 hE h0 hc hf)).gx ?_
  rintro r h' ⟨hr, rfl⟩
  exact (GhostX.of (ghost_perm hp.symm)).mono fun h' e => ⟨hr, e⟩
theorem splice_app (a b xs : List Value) (o : Nat) : splice (a ++ b) (a.length + o) xs = a ++ splice b o xs := by
  rw [splice, splice, List.take_length_add_append, Nat.add_assoc, List.drop_length_add_append]
  simp
theorem splice_left (a b xs : List Value) (o : Nat) (h : o + xs.length ≤ a.length) : splice (a ++ b) o xs = splice a o xs ++ b := by
  rw [splice, splice, List.take_append_of_le_length (by omega), List.drop_append_of_le_length h]
  simp
/-- Part of an element, changed. -/
theorem Cells.setF {α : Type} {E : α → List Value → Prop} {sz : Nat} {xs : List α} {ys : List Value} (h : Cells E sz xs ys) {k o : Nat} {x x' : α} {us : List Value} (hx : xs[k]? = some x) (ho : o + us.length ≤ sz)
    (hE : ∀ cs, E x cs → cs.length = sz → E x' (splice cs o us)) : Cells E sz (xs.set k x') (splice ys (k * sz + o) us) := by
  have hk : k < xs.length := (List.getElem?_eq_some_iff.1 hx).1
  obtain ⟨a, b⟩ := h.split k (by omega)
  have hl := h.len
  have hlt : (ys.take (k * sz)).length = k * sz := by
    rw [List.length_take, hl]
    exact Nat.min_eq_left (Nat.mul_le_mul_right _ (by omega))
  have hd : xs.drop k = x :: xs.drop (k + 1) := by
    rw [List.drop_eq_getElem_cons hk]
    congr 1
    exact (List.getElem?_eq_some_iff.1 hx).2
  rw [hd] at b
  generalize hyd : ys.drop (k * sz) = yd at b
  cases b with
  | cons hE' hl' ht =>
    rename_i cs rest
    have e1 : ys = ys.take (k * sz) ++ (cs ++ rest) := by rw [← hyd, List.take_append_drop]
    have e2 : splice ys (k * sz + o) us = ys.take (k * sz) ++ (splice cs o us ++ rest) := by
      have := splice_app (ys.take (k * sz)) (cs ++ rest) us o
      rw [hlt, ← e1, splice_left _ _ _ _ (by omega)] at this
      exact this
    rw [e2, List.set_eq_take_append_cons_drop, if_pos hk]
    refine a.app (.cons (hE _ hE' hl') ?_ ht)
    simp [splice, hl']
    omega
end Go.Kx
