/- The second text of the small logic: what a change of the owned part does; loads and stores. No condition. -/
import Derived.Test.YtdiccicokbbcoaaK1
set_option linter.unusedSimpArgs false
set_option linter.unusedVariables false
namespace Go.Kx
open Go Go.RowKit

theorem dom_append (β : Nat → Nat) (L1 L2 : List Item) : dom β (L1 ++ L2) = dom β L1 ++ dom β L2 := List.filterMap_append
theorem dom_cons (β : Nat → Nat) (it : Item) (L : List Item) : dom β (it :: L) = (it.block β).toList ++ dom β L := by
  unfold dom
  cases hb : it.block β with
  | none => rw [List.filterMap_cons_none hb]; rfl
  | some b => rw [List.filterMap_cons_some hb]; rfl

/-- The owned part changes. -/
theorem sat_change {β β' G L L' D w w'} (s : Sat β ⟨G, L, D⟩ w) (hos : w'.os = w.os) (htape : w'.tape = w.tape) (hout : w'.output = w.output) (hsz : w.heap.size ≤ w'.heap.size)
    (hold : ∀ b, b < w.heap.size → b ∉ dom β L → w'.heap[b]? = w.heap[b]?) (hok : ∀ it ∈ L', it.ok β' w') (hnd : (dom β' L').Nodup)
    (hnew : ∀ b ∈ dom β' L', b ∈ dom β L ∨ w.heap.size ≤ b) : Sat β' ⟨G, L', D⟩ w' ∧ Step β ⟨G, L, D⟩ w β' ⟨G, L', D⟩ w' := by
  have hnd0 := List.nodup_append.1 s.nd
  refine ⟨⟨fun b o hb => ?_, hok, ?_, fun b hb => ?_, fun b hb => ?_⟩, ⟨hos, htape, hout, hsz, hold, fun _ _ h => h, fun _ h h' => absurd h h', hnew, [], rfl, by simp⟩⟩
  · rw [hold b (s.g_lt hb) (fun hm => by have := s.df b (List.mem_append_left _ hm); rw [this] at hb; cases hb)]
    exact s.g b o hb
  · refine List.nodup_append.2 ⟨hnd, hnd0.2.1, fun b hb c hc => ?_⟩
    rcases hnew b hb with h | h
    · exact hnd0.2.2 b h c hc
    · have := s.d_lt (b := c) hc
      omega
  · rcases List.mem_append.1 hb with hb | hb
    · rcases hnew b hb with h | h
      · exact s.df b (List.mem_append_left _ h)
      · cases hg : G b with
        | none => exact hg
        | some o => have := s.g_lt (b := b) hg; omega
    · exact s.df b (List.mem_append_right _ hb)
  · rw [hold b (s.d_lt hb) (fun hm => hnd0.2.2 b hm b hb rfl)]
    exact s.d b hb

theorem Sat.nd' {β G L D w} (s : Sat β ⟨G, L, D⟩ w) : (dom β L).Nodup := (List.nodup_append.1 s.nd).1

/-- A new block of the function's own. -/
theorem sat_add {β G L D w w'} {it : Item} (s : Sat β ⟨G, L, D⟩ w) (hos : w'.os = w.os) (htape : w'.tape = w.tape) (hout : w'.output = w.output) (hsz : w.heap.size ≤ w'.heap.size)
    (hold : ∀ b, b < w.heap.size → w'.heap[b]? = w.heap[b]?) (hok : it.ok β w') (hb : ∀ b, it.block β = some b → w.heap.size ≤ b) :
    Sat β ⟨G, it :: L, D⟩ w' ∧ Step β ⟨G, L, D⟩ w β ⟨G, it :: L, D⟩ w' := by
  refine sat_change s hos htape hout hsz (fun b h _ => hold b h) ?_ ?_ ?_
  · intro x hx
    rcases List.mem_cons.1 hx with rfl | hx
    · exact hok
    · exact Item.ok_of (s.l x hx) (fun b hb => hold b (Item.ok_lt (s.l x hx) hb)) rfl
  · rw [dom_cons]
    refine List.nodup_append.2 ⟨by cases it.block β <;> simp, s.nd', fun b hb1 c hc => ?_⟩
    have h1 := hb b (by simpa using hb1)
    have h2 := s.dom_lt hc
    omega
  · intro b hb1
    rw [dom_cons] at hb1
    rcases List.mem_append.1 hb1 with h | h
    · exact .inr (hb b (by simpa using h))
    · exact .inl h

/-- One of what is owned changes; it may move to a new block. -/
theorem sat_swap {β G L1 L2 D w w'} {it it' : Item} (s : Sat β ⟨G, L1 ++ it :: L2, D⟩ w) (hos : w'.os = w.os) (htape : w'.tape = w.tape) (hout : w'.output = w.output) (hsz : w.heap.size ≤ w'.heap.size)
    (hold : ∀ b, b < w.heap.size → it.block β ≠ some b → w'.heap[b]? = w.heap[b]?) (hok : it'.ok β w') (hb : ∀ b, it'.block β = some b → it.block β = some b ∨ w.heap.size ≤ b) :
    Sat β ⟨G, L1 ++ it' :: L2, D⟩ w' ∧ Step β ⟨G, L1 ++ it :: L2, D⟩ w β ⟨G, L1 ++ it' :: L2, D⟩ w' := by
  have hnd := s.nd'
  rw [dom_append, dom_cons] at hnd
  have h1 := List.nodup_append.1 hnd
  have h2 := List.nodup_append.1 h1.2.1
  have hin : ∀ b, b ∈ dom β (L1 ++ it :: L2) ↔ b ∈ dom β L1 ∨ it.block β = some b ∨ b ∈ dom β L2 := by
    intro b; rw [dom_append, dom_cons, List.mem_append, List.mem_append]; simp
  have hin' : ∀ b, b ∈ dom β (L1 ++ it' :: L2) ↔ b ∈ dom β L1 ∨ it'.block β = some b ∨ b ∈ dom β L2 := by
    intro b; rw [dom_append, dom_cons, List.mem_append, List.mem_append]; simp
  have hlt : ∀ b, b ∈ dom β L1 ∨ b ∈ dom β L2 → b < w.heap.size := fun b hb => s.dom_lt ((hin b).2 (by rcases hb with h | h; exact .inl h; exact .inr (.inr h)))
  have hne1 : ∀ b, b ∈ dom β L1 → it.block β ≠ some b := fun b hb he => h1.2.2 b hb b (List.mem_append_left _ (by simp [he])) rfl
  have hne2 : ∀ b, b ∈ dom β L2 → it.block β ≠ some b := fun b hb he => h2.2.2 b (by simp [he]) b hb rfl
  refine sat_change s hos htape hout hsz (fun b h hn => hold b h (fun he => hn ((hin b).2 (.inr (.inl he))))) ?_ ?_ ?_
  · intro x hx
    have keep : ∀ x, x ∈ L1 ∨ x ∈ L2 → x.ok β w' := by
      intro x hx
      have hx0 : x ∈ L1 ++ it :: L2 := by rcases hx with h | h <;> simp [h]
      refine Item.ok_of (s.l x hx0) (fun b hb => hold b (Item.ok_lt (s.l x hx0) hb) ?_) rfl
      rcases hx with h | h
      · exact hne1 b (List.mem_filterMap.2 ⟨x, h, hb⟩)
      · exact hne2 b (List.mem_filterMap.2 ⟨x, h, hb⟩)
    rcases List.mem_append.1 hx with h | h
    · exact keep x (.inl h)
    · rcases List.mem_cons.1 h with rfl | h
      · exact hok
      · exact keep x (.inr h)
  · rw [dom_append, dom_cons]
    refine List.nodup_append.2 ⟨h1.1, List.nodup_append.2 ⟨by cases it'.block β <;> simp, h2.2.1, fun b hb1 c hc => ?_⟩, fun b hb1 c hc => ?_⟩
    · rcases hb b (by simpa using hb1) with h | h
      · exact fun e => hne2 c hc (e ▸ h)
      · have := hlt c (.inr hc); omega
    · rcases List.mem_append.1 hc with hc | hc
      · rcases hb c (by simpa using hc) with h | h
        · exact fun e => hne1 b hb1 (e ▸ h)
        · have := hlt b (.inl hb1); omega
      · exact h1.2.2 b hb1 c (List.mem_append_right _ hc)
  · intro b hb1
    rcases (hin' b).1 hb1 with h | h | h
    · exact .inl ((hin b).2 (.inl h))
    · rcases hb b h with h | h
      · exact .inl ((hin b).2 (.inr (.inl h)))
      · exact .inr h
    · exact .inl ((hin b).2 (.inr (.inr h)))

/-- Less is owned. -/
theorem sat_sub {β G L L' D w} (s : Sat β ⟨G, L, D⟩ w) (hs : L'.Sublist L) : Sat β ⟨G, L', D⟩ w ∧ Step β ⟨G, L, D⟩ w β ⟨G, L', D⟩ w := by
  have hd : (dom β L').Sublist (dom β L) := hs.filterMap _
  exact sat_change s rfl rfl rfl (Nat.le_refl _) (fun _ _ _ => rfl) (fun it h => s.l it (hs.subset h)) (hd.nodup s.nd') (fun b hb => .inl (hd.subset hb))
theorem sat_perm {β G L L' D w} (s : Sat β ⟨G, L, D⟩ w) (hs : L.Perm L') : Sat β ⟨G, L', D⟩ w ∧ Step β ⟨G, L, D⟩ w β ⟨G, L', D⟩ w := by
  have hd : (dom β L).Perm (dom β L') := hs.filterMap _
  exact sat_change s rfl rfl rfl (Nat.le_refl _) (fun _ _ _ => rfl) (fun it h => s.l it (hs.symm.subset h)) (hd.nodup_iff.1 s.nd') (fun b hb => .inl (hd.symm.subset hb))
/-- What is owned becomes what stays as it is. -/
theorem sat_freeze {β G L D w} {it : Item} {b : Nat} {o : Obj} (s : Sat β ⟨G, it :: L, D⟩ w) (hb : it.block β = some b) (ho : w.heap[b]? = some o) :
    Sat β ⟨fun i => if i = b then some o else G i, L, D⟩ w ∧ Step β ⟨G, it :: L, D⟩ w β ⟨fun i => if i = b then some o else G i, L, D⟩ w := by
  have hdc : dom β (it :: L) = b :: dom β L := by rw [dom_cons, hb]; rfl
  have hnd := s.nd
  simp only [hdc, List.cons_append, List.nodup_cons] at hnd
  have hgb : G b = none := s.df b (by rw [hdc]; simp)
  refine ⟨⟨fun i o' hi => ?_, fun x hx => s.l x (List.mem_cons_of_mem _ hx), hnd.2, fun i hi => ?_, s.d⟩, ⟨rfl, rfl, rfl, Nat.le_refl _, fun _ _ _ => rfl, fun i o' hi => ?_, fun i h0 h1 => ?_, fun i hi => .inl ?_, [], rfl, by simp⟩⟩
  · simp only at hi
    split at hi
    · rename_i he; subst he; cases hi; exact ho
    · exact s.g i o' hi
  · simp only
    rw [if_neg (fun he => by subst he; exact hnd.1 hi)]
    exact s.df i (by rw [hdc]; exact List.mem_cons_of_mem _ hi)
  · simp only
    simp only at hi
    rw [if_neg (fun e => by subst e; rw [hgb] at hi; cases hi)]
    exact hi
  · simp only at h1
    split at h1
    · rename_i he; subst he; right; rw [hdc]; simp
    · exact absurd h0 h1
  · show i ∈ dom β (it :: L)
    rw [hdc]; exact List.mem_cons_of_mem _ hi

/-! ### Loads -/
def cellG (G : Nat → Option Obj) (a : Addr) : Option Value :=
  match G a.block with
  | some (.cells c _ _) => if a.spot.isSome then none else c[a.off]?
  | _ => none
inductive Ld1 (h : H) : Addr → Value → Prop
  | g {a v} (hc : cellG h.G a = some v) : Ld1 h a v
  | blk {b o cs v} (hm : Item.blk b cs ∈ h.L) (hc : cs[o]? = some v) : Ld1 h ⟨b, o, none⟩ v
  | row {g o n' c e sz n xs v} (hm : Item.row (.slice (some ⟨g, 0, none⟩) n' c) e sz n xs ∈ h.L) (hc : xs[o]? = some v) : Ld1 h ⟨g, o, none⟩ v
theorem Ld1.mono {h h' : H} {a v} (hl : Ld1 h a v) (hg : h'.G = h.G) (hL : ∀ it, it ∈ h.L → it ∈ h'.L) : Ld1 h' a v := by
  cases hl with
  | g hc => exact .g (by rw [hg]; exact hc)
  | blk hm hc => exact .blk (hL _ hm) hc
  | row hm hc => exact .row (hL _ hm) hc
theorem Ld1.sound {β h w a v} (s : Sat β h w) (hl : Ld1 h a v) : w.cell? a = some v := by
  cases hl with
  | g hc =>
    unfold cellG at hc
    split at hc
    · rename_i c t fr hg
      have := s.g _ _ hg
      simp only [World.cell?, this]
      exact hc
    · cases hc
  | @blk b o cs v hm hc =>
    obtain ⟨t, ht⟩ := s.l _ hm
    simp [World.cell?, ht, hc]
  | @row g o n' c e sz n xs v hm hc =>
    have hr : rowOk w _ e sz n xs := s.l _ hm
    obtain ⟨hl, hr⟩ := hr
    rcases hr with ⟨A, hA, rfl⟩ | ⟨g', cap, cur, hv, _, hg, _, _, _, htake⟩
    · have : xs = [] := List.eq_nil_of_length_eq_zero (by simpa using hl)
      subst this
      simp at hc
    · injection hv with hv _ _
      injection hv with hv
      injection hv with hv _ _
      subst hv
      simp only [World.cell?, hg]
      rw [← htake, List.getElem?_take] at hc
      split at hc
      · simpa using hc
      · cases hc
/-- A value of so many cells ('none': one that is no struct) lies at an address. -/
def LdN (h : H) (p : Value) (n : Option Nat) (v : Value) : Prop :=
  match n with
  | none => ∃ a, p = .pointer (some a) ∧ Ld1 h a v
  | some k => ∃ a vs, p = .pointer (some a) ∧ v = .agg (List.toArray vs) ∧ vs.length = k ∧ ∀ j u, vs[j]? = some u → Ld1 h (a.add j) u

def aggN (P : Program) (t : TypeId) : Option (Option Nat) :=
  match P.underlying t, P.info? t with
  | some (.struct _), some i | some (.array ..), some i => some (some i.size)
  | some _, some i => if i.size = 1 then some none else none
  | _, _ => none
theorem run_loadAt {P : Program} {β h w t p n v} (s : Sat β h w) (hn : aggN P t = some n) (hl : LdN h p n v) : (Instr.loadAt t p).run P w = .ok v w := by
  unfold aggN at hn
  have agg : ∀ i : TypeInfo, P.info? t = some i → (isAgg t).run P w = .ok true w → n = some i.size → (Instr.loadAt t p).run P w = .ok v w := by
    rintro i hi hagg rfl
    obtain ⟨a, vs, rfl, rfl, hk, hc⟩ := hl
    have h1 := run_loadCells_list (P := P) w a vs (fun j u hu => (hc j u hu).sound s)
    simp only [Instr.loadAt, Instr.sureAddr, loadVar, Sem.run_bind, Sem.run_pure, Result.andThen_ok, hagg, if_true, sizeOf, typeInfo, program, Sem.run, hi]
    simp [bind, Sem.bind, Sem.run, hi, ← hk, h1, pure, Sem.run_bind', Result.andThen]
  split at hn
  · rename_i i hu hi
    cases hn
    exact agg i hi (by simp [isAgg, run_underlying hu]) rfl
  · rename_i i hu hi
    cases hn
    exact agg i hi (by simp [isAgg, run_underlying hu]) rfl
  · rename_i d i hd1 hd2 hu hi
    split at hn
    · cases hn
      obtain ⟨a, rfl, hl⟩ := hl
      have hagg : (isAgg t).run P w = .ok false w := by
        have := hu
        simp only [isAgg, Sem.run_bind, run_underlying this, Result.andThen_ok]
        cases d <;> first | rfl | exact absurd rfl (hd1 _ _ ‹_›) | skip
        all_goals simp_all
      simp only [Instr.loadAt, Instr.sureAddr, loadVar, Sem.run_bind, Sem.run_pure, Result.andThen_ok, hagg, Bool.false_eq_true, if_false]
      simp [load, Sem.run, hl.sound s]
    · cases hn
  · cases hn

/-! ### Stores -/
def splice (cs : List Value) (o : Nat) (xs : List Value) : List Value := cs.take o ++ xs ++ cs.drop (o + xs.length)
theorem run_storeAt {P : Program} {w : World} {t : TypeId} {i : TypeInfo} {b o : Nat} {cs xs : List Value} {te : TypeId} {y : Value} (hi : P.info? t = some i) (hw : w.heap[b]? = some (.cells cs.toArray te (0, 0)))
    (hy : y.cells.toList = xs) (hsz : xs.length = i.size) (ho : o + xs.length ≤ cs.length) (h1 : ∀ u ∈ xs, u.oneCell' = true) :
    ∃ w', (Instr.storeAt t (.pointer (some ⟨b, o, none⟩)) y).run P w = .ok () w' ∧ w'.heap[b]? = some (.cells (splice cs o xs).toArray te (0, 0)) ∧ (∀ b', b' ≠ b → w'.heap[b']? = w.heap[b']?) ∧
      w'.heap.size = w.heap.size ∧ w'.os = w.os ∧ w'.tape = w.tape ∧ w'.output = w.output := by
  have hst := run_storeCells_at P b o te xs 0 cs.toArray w hw (by simpa using ho) h1
  have hl : y.cells.size = i.size := by rw [← hsz, ← hy]; simp
  refine ⟨w.setRow b (splice cs o xs).toArray, ?_, setRow_heap w b _ _ te (0, 0) hw, fun b' hb => setRow_other w b b' _ hb, setRow_size w b _, rfl, rfl, rfl⟩
  have hty : (sizeOf t).run P w = .ok i.size w := by simp [sizeOf, typeInfo, hi]
  simp only [Instr.storeAt, Instr.sureAddr, storeVar, Sem.run_bind, Sem.run_pure, Result.andThen_ok, hty, hl, ne_eq, not_true_eq_false, if_false, hy, hst]
  simp [splice]
end Go.Kx
