/- The third text of the small logic: append onto a slice that the function made. No condition. -/
import Derived.Test.YtdiccicokbbcoaaK2
import Derived.Deep.AppendSrc
set_option linter.unusedSimpArgs false
set_option linter.unusedVariables false
namespace Go.Kx
open Go Go.RowKit

theorem firstCells_empty {P : Program} (size : Nat) (A : Option Addr) (w : World) : (Builtin.firstCells size 0 (.slice A 0 0)).run P w = .ok #[] w := by
  cases A <;> simp [Builtin.firstCells, loadCells, loadCellsFrom]

theorem row_append {P : Program} {w : World} {t tx ty e : TypeId} {i : TypeInfo} {z v x : Value} {n m : Nat} {xs news : List Value} (ht : P.underlying t = some (.slice e)) (hi : P.info? e = some i) (hz : i.zero = some z) (hzs : z.cells.size = i.size)
    (hr : rowOk w v e i.size n xs) (hs : Src P i.size tx x m news w) (h63 : n + m ≤ maxLen) (hb : (n + m) * i.bytes ≤ 140737488355328) :
    ∃ A c w', (Builtin.append_ #[t, tx] ty #[v, x]).run P w = .ok (.slice A (n + m) c) w' ∧ rowOk w' (.slice A (n + m) c) e i.size (n + m) (xs ++ news) ∧ w'.os = w.os ∧ w'.tape = w.tape ∧ w'.output = w.output ∧
      w.heap.size ≤ w'.heap.size ∧ (∀ b, b < w.heap.size → rowBlock v ≠ some b → w'.heap[b]? = w.heap[b]?) ∧ (∀ b, rowBlock (.slice A (n + m) c) = some b → rowBlock v = some b ∨ w.heap.size ≤ b) := by
  have h63' : ((n + m : Nat) : Int) ≤ 9223372036854775807 := by unfold maxLen at h63; omega
  have hlen : (xs ++ news).length = (n + m) * i.size := by rw [List.length_append, hr.1, hs.newsLen, Nat.add_mul]
  -- a new block
  have grow : ∀ (base : Option Addr) (cap : Nat), v = .slice base n cap → (Builtin.firstCells i.size n (.slice base n cap)).run P w.drew = .ok xs.toArray w.drew → cap < n + m →
      ∃ A c w', (Builtin.append_ #[t, tx] ty #[v, x]).run P w = .ok (.slice A (n + m) c) w' ∧ rowOk w' (.slice A (n + m) c) e i.size (n + m) (xs ++ news) ∧ w'.os = w.os ∧ w'.tape = w.tape ∧ w'.output = w.output ∧
      w.heap.size ≤ w'.heap.size ∧ (∀ b, b < w.heap.size → rowBlock v ≠ some b → w'.heap[b]? = w.heap[b]?) ∧ (∀ b, rowBlock (.slice A (n + m) c) = some b → rowBlock v = some b ∨ w.heap.size ≤ b) := by
    rintro base cap rfl hf hg
    have hrun := run_append_grow_src w t tx ty e i z ht hi hz base n cap xs hf x m news hs hg h63' (growslice_fits hg hb)
    have hge := grownCap_ge w (n + m) cap e
    have hcm : grownCap w (n + m) cap e ≤ maxLen := grownCap_le_maxLen w (n + m) cap e h63
    refine ⟨_, _, _, hrun, ⟨hlen, .inr ⟨w.heap.size, _, _, rfl, by omega, heap_alloc_new w.drew _, hge, hcm, ?_, ?_⟩⟩, rfl, rfl, rfl, by simp, fun b hb' _ => heap_alloc_old w.drew _ hb', fun b hb' => .inr ?_⟩
    · simp only [Array.size_append, List.size_toArray, size_zeroCells, hzs, hlen, ← Nat.add_mul]
      congr 1
      omega
    · simp only [Array.toList_append, ← hlen]
      exact List.take_left
    · have hc' : ¬ grownCap w (n + m) cap e = 0 := by omega
      simp [rowBlock, hc'] at hb'
      omega
  rcases hr.2 with ⟨A, rfl, rfl⟩ | ⟨g, cap, cur, rfl, hc, hg, hnc, hcm, hcs, htake⟩
  · have hx : xs = [] := List.eq_nil_of_length_eq_zero (by simpa using hr.1)
    subst hx
    by_cases hm : m = 0
    · subst hm
      have hn : news = [] := List.eq_nil_of_length_eq_zero (by simpa using hs.newsLen)
      subst hn
      refine ⟨A, 0, w, ?_, ⟨by simp, .inl ⟨A, rfl, rfl⟩⟩, rfl, rfl, rfl, Nat.le_refl _, fun _ _ _ => rfl, fun b hb' => .inl hb'⟩
      have hc := hs.cells
      cases A <;> rcases hs.kind with ⟨e', hk⟩ | hk <;> simp [Builtin.append_, run_underlying ht, run_underlying hk, sizeOf, typeInfo, hi, hs.len, hc, storeCells]
    · exact grow A 0 rfl (firstCells_empty _ _ _) (by omega)
  · have hcells : ∀ j u, xs[j]? = some u → w.cell? ((⟨g, 0, none⟩ : Addr).add j) = some u := by
      intro j u hu
      have hadd : (⟨g, 0, none⟩ : Addr).add j = ⟨g, j, none⟩ := by unfold Addr.add; split <;> simp_all
      rw [hadd]
      simp only [World.cell?, hg]
      rw [← htake, List.getElem?_take] at hu
      split at hu
      · simpa using hu
      · cases hu
    by_cases hroom : n + m ≤ cap
    · have hmul : (n + m) * i.size ≤ cap * i.size := Nat.mul_le_mul_right _ hroom
      have hfit : n * i.size + news.length ≤ cur.size := by rw [hcs, hs.newsLen, ← Nat.add_mul]; exact hmul
      have hst := run_storeCells_at P g (n * i.size) e news 0 cur w hg (by simpa using hfit) hs.one
      simp only [Nat.add_zero] at hst
      have hc' : ¬ cap = 0 := by omega
      obtain ⟨cur', hcur⟩ : ∃ c : Array Value, c = (cur.toList.take (n * i.size) ++ news ++ cur.toList.drop (n * i.size + news.length)).toArray := ⟨_, rfl⟩
      rw [← hcur] at hst
      refine ⟨some ⟨g, 0, none⟩, cap, w.setRow g cur', ?_, ⟨hlen, .inr ⟨g, cap, cur', rfl, hc, setRow_heap w g cur _ e (0, 0) hg, hroom, hcm, ?_, ?_⟩⟩, rfl, rfl, rfl, by simp, fun b _ hb' => setRow_other w g b _ (fun he => hb' (by simp [rowBlock, hc', he])), fun b hb' => .inl hb'⟩
      · rcases hs.kind with ⟨e', hk⟩ | hk <;> simp [Builtin.append_, run_underlying ht, run_underlying hk, sizeOf, typeInfo, hi, hs.len, hroom, hs.cells, Addr.add_lit, hst]
      · rw [hcur]; simp only [List.size_toArray, List.length_append, List.length_take, List.length_drop, Array.length_toList]; omega
      · rw [hcur, htake, ← hlen]
        exact List.take_left
    · exact grow (some ⟨g, 0, none⟩) cap rfl (run_firstCells_some w.drew i.size n _ n cap xs hr.1 (by simpa using hcells)) (by omega)
end Go.Kx
