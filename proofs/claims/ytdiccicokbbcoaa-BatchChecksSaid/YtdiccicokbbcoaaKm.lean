/- The twenty-second text of the small logic: a range over a function. No condition. -/
import Derived.Test.YtdiccicokbbcoaaKl
import Derived.RangeFuncIn
set_option linter.unusedSimpArgs false
set_option linter.unusedVariables false
namespace Go.Kx
open Go Go.RowKit

section
variable {β β' β2 : Nat → Nat} {G G' : Nat → Option Obj} {L L' L2 : List Item} {D : List Nat} {w w' : World} {h : H} {P : Program}

theorem sat_D (hs : Sat β ⟨G, L, D⟩ w) : Sat β ⟨G, L, []⟩ w :=
  ⟨hs.g, hs.l, by simpa using hs.nd', fun b hb => hs.df b (by simp only [List.append_nil] at hb; exact List.mem_append_left _ hb), fun _ h => by cases h⟩
theorem step_D {D' : List Nat} (st : Step β ⟨G, L, D⟩ w β' ⟨G', L', D'⟩ w') : Step β ⟨G, L, []⟩ w β' ⟨G', L', []⟩ w' :=
  ⟨st.os, st.tape, st.output, st.size, st.old, st.gm, st.gn, st.ln, [], rfl, by simp⟩
theorem sat_rebase (hn : NoRegs L) (hs : Sat β' ⟨G, L, D⟩ w) : Sat β ⟨G, L, D⟩ w := by
  have hd : dom β' L = dom β L := dom_noRegs hn
  exact ⟨hs.g, fun it hit => ok_noRegs (fun s cs he => hn s cs (he ▸ hit)) (hs.l it hit), by have := hs.nd; rw [hd] at this; exact this, fun b hb => hs.df b (by rw [hd]; exact hb), hs.d⟩
theorem step_rebase (hn : NoRegs L) (st : Step β h w β' ⟨G, L, D⟩ w') : Step β h w β2 ⟨G, L, D⟩ w' := by
  have hd : dom β' L = dom β2 L := dom_noRegs hn
  exact ⟨st.os, st.tape, st.output, st.size, st.old, st.gm, st.gn, fun b hb => st.ln b (by rw [hd]; exact hb), st.dn⟩

/-- What a step does not see stays. -/
theorem frame (hs : Sat β ⟨G, L ++ L2, D⟩ w) (hs' : Sat β' ⟨G', L', []⟩ w') (st : Step β ⟨G, L, []⟩ w β' ⟨G', L', []⟩ w') (hb : ∀ it ∈ L2, it.block β' = it.block β) :
    Sat β' ⟨G', L' ++ L2, D⟩ w' ∧ Step β ⟨G, L ++ L2, D⟩ w β' ⟨G', L' ++ L2, D⟩ w' := by
  have hnd0 := List.nodup_append.1 hs.nd
  have hndL := hnd0.1
  rw [dom_append] at hndL
  have hndL' := List.nodup_append.1 hndL
  have hd2 : dom β' L2 = dom β L2 := by
    unfold dom
    clear hs hnd0 hndL hndL'
    induction L2 with
    | nil => rfl
    | cons it l ih =>
      have h1 := hb it (by simp)
      have h2 := ih (fun x hx => hb x (by simp [hx]))
      simp only [List.filterMap_cons, h1, h2]
  have hlt2 : ∀ b, b ∈ dom β L2 ∨ b ∈ D → b < w.heap.size := fun b hb => by
    rcases hb with hb | hb
    · exact hs.dom_lt (by rw [dom_append]; simp [hb])
    · exact hs.d_lt hb
  have hn1 : ∀ b, b ∈ dom β L2 ∨ b ∈ D → b ∉ dom β L := fun b hb hm => by
    rcases hb with hb | hb
    · exact hndL'.2.2 b hm b hb rfl
    · exact hnd0.2.2 b (by rw [dom_append]; simp [hm]) b hb rfl
  have hkeep : ∀ b, b ∈ dom β L2 ∨ b ∈ D → w'.heap[b]? = w.heap[b]? := fun b hb => st.old b (hlt2 b hb) (hn1 b hb)
  have hsep : ∀ b, b ∈ dom β' L' → ¬ (b ∈ dom β L2 ∨ b ∈ D) := fun b hb hc => by
    rcases st.ln b hb with h | h
    · exact hn1 b hc h
    · have := hlt2 b hc; omega
  refine ⟨⟨hs'.g, fun it hit => ?_, ?_, fun b hb' => ?_, fun b hb' => ?_⟩, ?_⟩
  · rcases List.mem_append.1 hit with h | h
    · exact hs'.l it h
    · exact Item.ok_of (hs.l it (by simp [h])) (fun b hb' => hkeep b (.inl (List.mem_filterMap.2 ⟨it, h, hb'⟩))) (hb it h)
  · rw [dom_append, hd2, List.append_assoc]
    refine List.nodup_append.2 ⟨hs'.nd', List.nodup_append.2 ⟨hndL'.2.1, hnd0.2.1, fun b hb c hc => hnd0.2.2 b (by rw [dom_append]; simp [hb]) c hc⟩, fun b hb c hc he => ?_⟩
    subst he
    exact hsep b hb (List.mem_append.1 hc)
  · rw [dom_append, hd2, List.append_assoc] at hb'
    rcases List.mem_append.1 hb' with hb' | hb'
    · exact hs'.df b (by rw [List.append_nil]; exact hb')
    · have hb2 := List.mem_append.1 hb'
      have h0 : G b = none := hs.df b (by rw [dom_append, List.append_assoc]; exact List.mem_append_right _ hb')
      cases hg : G' b with
      | none => exact hg
      | some o =>
        rcases st.gn b h0 (by show G' b ≠ none; rw [hg]; simp) with h | h
        · have := hlt2 b hb2; omega
        · exact absurd h (hn1 b hb2)
  · rw [hkeep b (.inr hb')]
    exact hs.d b hb'
  · refine ⟨st.os, st.tape, st.output, st.size, fun b hb hn => st.old b hb (fun hm => hn (by rw [dom_append]; simp [hm])), st.gm, fun b h0 h1 => ?_, fun b hb' => ?_, [], rfl, by simp⟩
    · rcases st.gn b h0 h1 with h | h
      · exact .inl h
      · exact .inr (by rw [dom_append]; simp only [List.mem_append]; exact .inl h)
    · rw [dom_append] at hb' ⊢
      rcases List.mem_append.1 hb' with hb' | hb'
      · rcases st.ln b hb' with h | h
        · exact .inl (List.mem_append_left _ h)
        · exact .inr h
      · exact .inl (List.mem_append_right _ (by rw [← hd2]; exact hb'))
theorem sat_obj {l : Nat} {o : Obj} (o' : Obj) (hs : Sat β ⟨G, L ++ [.obj l o], D⟩ w) :
    Sat β ⟨G, L ++ [.obj l o'], D⟩ (w.putObj l o') ∧ Step β ⟨G, L ++ [.obj l o], D⟩ w β ⟨G, L ++ [.obj l o'], D⟩ (w.putObj l o') := by
  have h0 : w.heap[l]? = some o := hs.l (.obj l o) (by simp)
  refine sat_swap hs rfl rfl rfl (by simp) (fun b _ hb => World.putObj_heap_other (fun he => hb (by simp [Item.block, he]))) ?_ (fun b hb => .inl hb)
  exact World.putObj_heap_same (Array.getElem?_eq_some_iff.1 h0).1
theorem sat_defer (hs : Sat β ⟨G, L, D⟩ w) : Sat β ⟨G, L, w.heap.size :: D⟩ (w.alloc (.deferred (some []))) ∧ Step β ⟨G, L, D⟩ w β ⟨G, L, w.heap.size :: D⟩ (w.alloc (.deferred (some []))) := by
  have hold : ∀ b, b < w.heap.size → (w.alloc (.deferred (some []))).heap[b]? = w.heap[b]? := fun b hb => heap_alloc_old w _ hb
  refine ⟨⟨fun b o ho => by rw [hold b (hs.g_lt ho)]; exact hs.g b o ho, fun it hit => Item.ok_of (hs.l it hit) (fun b hb => hold b (Item.ok_lt (hs.l it hit) hb)) rfl, ?_, fun b hb => ?_, fun b hb => ?_⟩,
    rfl, rfl, rfl, by simp, fun b hb _ => hold b hb, fun _ _ h => h, fun _ h h' => absurd h h', fun _ h => .inl h, [w.heap.size], rfl, by simp⟩
  · have hnd := List.nodup_append.1 hs.nd
    refine List.nodup_append.2 ⟨hnd.1, List.nodup_cons.2 ⟨fun hm => ?_, hnd.2.1⟩, fun b hb c hc he => ?_⟩
    · have := hs.d_lt hm; omega
    · subst he
      rcases List.mem_cons.1 hc with h | h
      · have := hs.dom_lt (h := ⟨G, L, D⟩) hb; omega
      · exact hnd.2.2 b hb b h rfl
  · rcases List.mem_append.1 hb with h | h
    · exact hs.df b (List.mem_append_left _ h)
    · rcases List.mem_cons.1 h with rfl | h
      · cases hg : G w.heap.size with
        | none => exact hg
        | some o => have := hs.g_lt hg; omega
      · exact hs.df b (List.mem_append_right _ h)
  · rcases List.mem_cons.1 hb with rfl | h
    · exact heap_alloc_new w _
    · rw [hold b (hs.d_lt h)]; exact hs.d b h
end

theorem YieldH.mono {P l args h} {R R' : Value → H → Prop} (hc : YieldH P l args h R) (hr : ∀ v h', R v h' → R' v h') : YieldH P l args h R' := fun β w hs => by
  obtain ⟨f, t, a, b, h1, h2⟩ := hc β w hs
  exact ⟨f, t, a, b, h1, h2.mono fun _ _ ⟨v, h', c, d, e, f, g⟩ => ⟨v, h', c, d, e, f, hr _ _ g⟩⟩
theorem YieldH.ghost {P l args h h'} {R : Value → H → Prop} (hg : Ghost h h') (hc : YieldH P l args h' R) : YieldH P l args h R := fun β w hs => by
  obtain ⟨s1, t1, d1, r1⟩ := hg β w hs
  obtain ⟨f, t, a, b, h1, h2⟩ := hc β w s1
  exact ⟨f, t, a, b, h1, h2.mono fun _ _ ⟨v, h2, c, ⟨d, d'⟩, e, f, g⟩ => ⟨v, h2, c, ⟨d.trans d1, r1.trans d'⟩, e, t1.trans f, g⟩⟩
theorem YieldH.gx {P l args h} {R R' : Value → H → Prop} (hc : YieldH P l args h R) (hr : ∀ v h', R v h' → GhostX h' (R' v)) : YieldH P l args h R' := fun β w hs => by
  obtain ⟨f, t, a, b, h1, h2⟩ := hc β w hs
  refine ⟨f, t, a, b, h1, h2.mono fun _ _ ⟨v, h', c, ⟨d, d'⟩, e, f, g⟩ => ?_⟩
  obtain ⟨h3, a3, s3, t3, d3, r3⟩ := hr _ _ g β _ e
  exact ⟨v, h3, c, ⟨d3.trans d, d'.trans r3⟩, s3, f.trans t3, a3⟩

/-- What a round does for whoever calls yield: 'I' from one element to the next, or 'Ix' and no more. -/
def Yields {α : Type} (P : Program) (l : Nat) (E : (Nat → Option Obj) → α → Array Value → Prop) (xs : List α) (I Ix : Nat → (Nat → Option Obj) → List Item → Prop) (G0 : Nat → Option Obj) : Prop :=
  ∀ i x args G L, xs[i]? = some x → Gle G0 G → E G x args → I i G L → ∀ L2 D2, YieldH P l args ⟨G, L ++ L2, D2⟩ fun v h' =>
    ∃ G' L', h' = ⟨G', L' ++ L2, D2⟩ ∧ Gle G G' ∧ NoRegs L' ∧ ((v = .bool true ∧ I (i + 1) G' L') ∨ (v = .bool false ∧ Ix i G' L'))
/-- A function that yields a list's elements, one by one, until it is told to stop. -/
def IterH {α : Type} (P : Program) (gf : Nat) (cap : Array Value) (xs : List α) (E : (Nat → Option Obj) → α → Array Value → Prop) (G0 : Nat → Option Obj) : Prop :=
  ∀ l (I Ix : Nat → (Nat → Option Obj) → List Item → Prop) G L, Gle G0 G → NoRegs L → (∀ i G L, I i G L → NoRegs L) → (∀ i G L, Ix i G L → NoRegs L) → I 0 G L → Yields P l E xs I Ix G →
    ∀ L2 D, CallsH P gf (#[.func (.yield l) #[] #[]] ++ cap) ⟨G, L ++ L2, D⟩ fun _ h' => ∃ G' L', h' = ⟨G', L' ++ L2, D⟩ ∧ Gle G G' ∧ NoRegs L' ∧ (I xs.length G' L' ∨ ∃ i, i < xs.length ∧ Ix i G' L')
theorem IterH.le {α : Type} {P gf cap} {xs : List α} {E G0 G1} (h : IterH P gf cap xs E G0) (hg : Gle G0 G1) : IterH P gf cap xs E G1 :=
  fun l I Ix G L h1 h2 h3 h4 h5 h6 => h l I Ix G L (hg.trans h1) h2 h3 h4 h5 h6

def setPs : Env → List Nat → List Value → Env
  | e, p :: ps, v :: vs => setPs (e.set p v) ps vs
  | e, _, _ => e
def exC : Exit → Option Code
  | .ret => some .ret
  | .exit id => some (.exit id)
  | _ => none
/-- At a round's end. -/
def rndQ (J : (Nat → Option Obj) → List Item → Prop) (Jx : Exit → (Nat → Option Obj) → List Item → Prop) : Exit → Env → H → Prop
  | .normal, _, h => ∃ h', Ghost ⟨h.G, h.L, []⟩ h' ∧ NoRegs h'.L ∧ J h'.G h'.L
  | .ret, _, h => ∃ h', Ghost ⟨h.G, h.L, []⟩ h' ∧ NoRegs h'.L ∧ Jx .ret h'.G h'.L
  | .exit id, _, h => ∃ h', Ghost ⟨h.G, h.L, []⟩ h' ∧ NoRegs h'.L ∧ Jx (.exit id) h'.G h'.L
  | _, _, _ => False
def rndA (K : Env → H → Prop) : Exit → Env → H → Prop
  | .normal, e, h => K e ⟨h.G, h.L, []⟩
  | _, _, _ => False

theorem rel_setPs {N : Nat} {vs : List Nat} : ∀ (ps : List Nat) (args : List Value) (t : Array Value) (e : Env), args.length = ps.length → (∀ p ∈ ps, p < N ∧ vs.contains p = false) →
    (t.size = N ∧ ∀ i, i < N → i ∉ vs → t.getD i undef = e i) →
    (((ps.zip args).foldl (fun (t : Array Value) (p : Nat × Value) => t.setIfInBounds p.1 p.2) t).size = N ∧ ∀ i, i < N → i ∉ vs → ((ps.zip args).foldl (fun (t : Array Value) (p : Nat × Value) => t.setIfInBounds p.1 p.2) t).getD i undef = setPs e ps args i)
  | [], [], t, e, _, _, h => h
  | p :: ps, v :: as, t, e, hl, hp, h => by
    simp only [List.zip_cons_cons, List.foldl_cons, setPs]
    refine rel_setPs ps as _ _ (by simpa using hl) (fun q hq => hp q (.tail _ hq)) ⟨by simp [h.1], fun i hi hv => ?_⟩
    have h1 := h.2 i hi hv
    by_cases hip : i = p
    · subst hip
      simp [Env.set, Array.getD_eq_getD_getElem?, h.1, hi]
    · have hpi : ¬ p = i := fun e => hip e.symm
      simp only [Env.set, hip, if_false, ← h1, Array.getD_eq_getD_getElem?]
      rw [Array.getElem?_setIfInBounds_ne hpi]
  | [], _ :: _, _, _, hl, _, _ => by simp at hl
  | _ :: _, [], _, _, hl, _, _ => by simp at hl

section rules
variable {P : Program} {N : Nat} {rs vs : List Nat} {Q : Exit → Env → H → Prop} {e : Env} {h : H}
theorem wK_rf {α : Type} {g : O} {ps : List Nat} {x y : SC} {gf : Nat} {cap : Array Value} {E : (Nat → Option Obj) → α → Array Value → Prop} {xs : List α} (I : Nat → (Nat → Option Obj) → List Item → Prop) (Ix : Exit → Nat → (Nat → Option Obj) → List Item → Prop)
    (hg : ev e g = .func (.func gf) #[] cap) (hEn : Enters P gf) (hL : NoRegs h.L) (hit : IterH P gf cap xs E h.G) (hps : ∀ G x args, E G x args → args.size = ps.length) (h0 : I 0 h.G h.L)
    (round : ∀ l i z args G L, xs[i]? = some z → Gle h.G G → E G z args → I i G L → NoRegs L →
      wK (some l) P N rs vs x (rndA fun e1 h1 => wK (some l) P N rs vs y (rndQ (I (i + 1)) (fun ex => Ix ex i)) e1 h1) (setPs e ps args.toList) ⟨G, L, []⟩)
    (done : ∀ G L d, Gle h.G G → I xs.length G L → NoRegs L → Q .normal e ⟨G, L, d :: h.D⟩)
    (stop : ∀ ex i G L d, i < xs.length → Gle h.G G → Ix ex i G L → NoRegs L → Q ex e ⟨G, L, d :: h.D⟩) : wK none P N rs vs (.rf g ps x y) Q e h := by
  intro c hs
  obtain ⟨cg, cps, cx, cy, rfl, hcg, rfl, hpar, hcx, hcy⟩ := slimC_inv hs
  intro β a w hr hw
  obtain ⟨G0, L0, D0⟩ := h
  dsimp only at *
  refine wpIn_rangeFunc ?_
  intro fn hfn
  obtain ⟨rec, hrec⟩ : ∃ rec : LoopState → Option Code → Loop, rec = fun st pe => { state := st, pending := pe, fn, tmps := a.tmps, params := cps, assign := cx, body := cy, defers := w.heap.size } := ⟨_, rfl⟩
  obtain ⟨l, hl⟩ : ∃ l, l = w.heap.size + 1 := ⟨_, rfl⟩
  obtain ⟨W1, hW1⟩ : ∃ W1, (w.alloc (.deferred (some []))).alloc (.loop (rec .ready none)) = W1 := ⟨_, rfl⟩
  obtain ⟨sd, td⟩ := sat_defer hw
  have hsat1 : Sat β ⟨G0, L0 ++ [.obj l (.loop (rec .ready none))], w.heap.size :: D0⟩ W1 ∧ Step β ⟨G0, L0, D0⟩ w β ⟨G0, L0 ++ [.obj l (.loop (rec .ready none))], w.heap.size :: D0⟩ W1 := by
    obtain ⟨s1, t1⟩ := sat_add (it := .obj l (.loop (rec .ready none))) (w' := W1) sd (by rw [← hW1]; rfl) (by rw [← hW1]; rfl) (by rw [← hW1]; rfl) (by rw [← hW1]; simp) (fun b hb => by rw [← hW1]; exact heap_alloc_old _ _ hb)
      (by show W1.heap[l]? = _; rw [hl, ← hW1]; have := heap_alloc_new (w.alloc (.deferred (some []))) (.loop (rec .ready none)); rwa [World.size_alloc] at this) (fun b hb => by simp [Item.block] at hb; rw [World.size_alloc]; omega)
    obtain ⟨s2, t2⟩ := sat_perm s1 (L' := L0 ++ [.obj l (.loop (rec .ready none))]) (List.perm_append_comm (l₁ := [_]))
    exact ⟨s2, (td.trans t1).trans t2⟩
  have heg : a.eval cg = .func (.func gf) #[] cap := by rw [slO_ev hr hcg, hg]
  refine ⟨l, [{ target := .collected w.heap.size, args := #[] }], W1, { target := .fn (.func gf) cap, args := #[.func (.yield l) #[] #[]] }, W1, gf,
    #[.func (.yield l) #[] #[]] ++ cap, W1, ?_, ?_, ?_, ?_, ?_, ?_⟩
  · rw [← hW1, hrec, hl]; exact run_enterLoop_outer _ _ _ _ _
  · simp only [resolve, heg]
    simp [go_sem]
  · intro f' _; trivial
  · simp [invoke, go_sem, hEn _ _]
  · intro h; cases h
  · refine calls_fr ?_
    have hcall := hit l (fun i G L => ∃ L1, L = L1 ++ [.obj l (.loop (rec .ready none))] ∧ I i G L1 ∧ NoRegs L1) (fun i G L => ∃ ex c L1, L = L1 ++ [.obj l (.loop (rec .done (some c)))] ∧ exC ex = some c ∧ Ix ex i G L1 ∧ NoRegs L1)
      G0 (L0 ++ [.obj l (.loop (rec .ready none))]) (.refl _) (fun s cs hm => by
        rcases List.mem_append.1 hm with h | h
        · exact hL s cs h
        · simp at h) (fun i G L ⟨L1, h1, _, h3⟩ s cs hm => by
        subst h1
        rcases List.mem_append.1 hm with h | h
        · exact h3 s cs h
        · simp at h) (fun i G L ⟨_, _, L1, h1, _, _, h3⟩ s cs hm => by
        subst h1
        rcases List.mem_append.1 hm with h | h
        · exact h3 s cs h
        · simp at h) ⟨L0, rfl, h0, hL⟩ ?_ [] (w.heap.size :: D0)
    · rw [List.append_nil] at hcall
      refine (hcall.2 β W1 hsat1.1).mono ?_
      rintro x w3 ⟨v, h', rfl, _, s3, t3, G', L', rfl, hgg, _, hend⟩
      rw [List.append_nil] at s3 t3
      have hrel : ∀ L1, NoRegs L1 → Rel none N rs vs β { a with defers := [{ target := .collected w.heap.size, args := #[] }] ++ a.defers } e ⟨G', L1, w.heap.size :: D0⟩ := fun L1 hn => by
        refine ⟨hr.size, hr.env, fun s cs hm => absurd hm (hn s cs), ?_⟩
        have := hr.dfr
        simp at this ⊢
        rw [this]
      have fin : ∀ r L1, Sat β ⟨G', L1 ++ [.obj l (.loop r)], w.heap.size :: D0⟩ w3 → Step β ⟨G0, L0 ++ [.obj l (.loop (rec .ready none))], w.heap.size :: D0⟩ W1 β ⟨G', L1 ++ [.obj l (.loop r)], w.heap.size :: D0⟩ w3 → ∀ o, Sat β ⟨G', L1, w.heap.size :: D0⟩ (w3.putObj l o) ∧ Step β ⟨G0, L0, D0⟩ w β ⟨G', L1, w.heap.size :: D0⟩ (w3.putObj l o) := fun r L1 s t o => by
        obtain ⟨s4, t4⟩ := sat_obj o s
        obtain ⟨s5, t5⟩ := sat_sub s4 (List.sublist_append_left L1 _)
        exact ⟨s5, ((hsat1.2.trans t).trans t4).trans t5⟩
      rcases hend with ⟨L1, rfl, hI, hn⟩ | ⟨i, hi, ex, c, L1, rfl, hc, hI, hn⟩
      · have hob : w3.heap[l]? = some (.loop (rec .ready none)) := s3.l (.obj l _) (by simp)
        refine ⟨_, _, run_endLoop hob (by rw [hrec]; simp), ?_⟩
        have hp : (rec .ready none).pending = none := by rw [hrec]
        rw [hp]
        exact ⟨β, e, _, hrel L1 hn, (fin _ L1 s3 t3 _).1, (fin _ L1 s3 t3 _).2, done _ _ _ hgg hI hn⟩
      · have hob : w3.heap[l]? = some (.loop (rec .done (some c))) := s3.l (.obj l _) (by simp)
        refine ⟨_, _, run_endLoop hob (by rw [hrec]; simp), ?_⟩
        have hp : (rec .done (some c)).pending = some c := by rw [hrec]
        rw [hp]
        have hq := stop ex i _ _ w.heap.size hi hgg hI hn
        cases ex <;> simp only [exC, Option.some.injEq, reduceCtorEq] at hc <;> subst hc
        · exact wpIn_exit ⟨β, e, _, hrel L1 hn, (fin _ L1 s3 t3 _).1, (fin _ L1 s3 t3 _).2, hq⟩
        · exact wpIn_ret ⟨β, e, _, hrel L1 hn, (fin _ L1 s3 t3 _).1, (fin _ L1 s3 t3 _).2, hq⟩
    · rintro i z args G L hz hgl hE ⟨L1, rfl, hI, hn⟩ L2 D2 β1 w1 hw1
      have hobj : w1.heap[l]? = some (.loop (rec .ready none)) := hw1.l (.obj l _) (by simp)
      have hsz := hps _ _ _ hE
      have hy := run_yield (P := P) (args := args) hobj (by rw [hrec]; simpa using hsz)
      rw [hrec] at hy
      dsimp only at hy
      have hps0 : ∀ p ∈ cps.toList, p < N ∧ vs.contains p = false := fun p hp => by
        have := Array.all_eq_true_iff_forall_mem.1 hpar p (by simpa using hp)
        simpa using this
      have hfold : (cps.zip args).foldl (fun (tmps : Array Value) (x : Nat × Value) => tmps.setIfInBounds x.1 x.2) a.tmps = (cps.toList.zip args.toList).foldl (fun (t : Array Value) (p : Nat × Value) => t.setIfInBounds p.1 p.2) a.tmps := by
        rw [← Array.foldl_toList, Array.toList_zip]
      have hr0 := rel_setPs (N := N) (vs := vs) cps.toList args.toList a.tmps e (by simpa using hsz) hps0 ⟨hr.size, hr.env⟩
      rw [← hfold] at hr0
      have hrel0 : Rel (some l) N rs vs β1 { tmps := (cps.zip args).foldl (fun (tmps : Array Value) (x : Nat × Value) => tmps.setIfInBounds x.1 x.2) a.tmps, defers := [] } (setPs e cps.toList args.toList) ⟨G, L1, []⟩ :=
        ⟨hr0.1, hr0.2, fun s cs hm => absurd hm (hn s cs), rfl⟩
      have hs0 : Sat β1 ⟨G, L1 ++ [.obj l (.loop (rec .ready none))], []⟩ w1 := sat_D (sat_weaken hw1 (.refl _) (List.sublist_append_left _ _))
      have hs0' : Sat β1 ⟨G, L1, []⟩ w1 := sat_weaken hs0 (.refl _) (List.sublist_append_left _ _)
      refine ⟨fn, _, cx, cy, hy, roundIn_of_wpIn hfn ?_⟩
      refine wpIn_mono (round l i z args G L1 hz hgl hE hI hn cx hcx β1 _ w1 hrel0 hs0') ?_
      rintro ex a1 w2 ⟨β2, e2, ⟨G2, L2', D2'⟩, r2, s2, st2, q2⟩
      cases ex with
      | normal =>
        have hq2 : wK (some l) P N rs vs y (rndQ (I (i + 1)) (fun ex => Ix ex i)) e2 ⟨G2, L2', []⟩ := q2
        obtain ⟨f1, f2⟩ := frame hs0 (sat_D s2) (step_D st2) (by simp [Item.block])
        have hobj2 : w2.heap[l]? = some (.loop (rec .ready none)) := f1.l (.obj l _) (by simp)
        obtain ⟨b1, b2⟩ := sat_obj (.loop { rec .ready none with state := .busy }) f1
        have r2' : Rel (some l) N rs vs β2 a1 e2 ⟨G2, L2', []⟩ := ⟨r2.size, r2.env, r2.reg, by have := r2.dfr; simpa using this⟩
        refine ⟨_, run_beginRound hobj2 (by rw [hrec]), wpIn_mono (hq2 cy hcy β2 a1 _ r2' (sat_weaken b1 (.refl _) (List.sublist_append_left _ _))) ?_⟩
        rintro ex a3 w3 ⟨β3, e3, ⟨G3, L3, D3⟩, r3, s3, st3, q3⟩
        have fin : ∀ (jump : Option Code) (J : (Nat → Option Obj) → List Item → Prop) (R : Value → H → Prop), (∃ h', Ghost ⟨G3, L3, []⟩ h' ∧ NoRegs h'.L ∧ J h'.G h'.L) →
            (∀ G' L', Gle G G' → NoRegs L' → J G' L' → R (.bool jump.isNone) ⟨G', (L' ++ [.obj l (.loop { rec (if jump.isNone then .ready else .done) jump with state := if jump.isNone then .ready else .done, pending := jump })]) ++ L2, D2⟩) →
            ∃ v w', (Instr.endRound l jump).run P w3 = .ok v w' ∧ ∃ v' h', Ending.returned v = .returned v' ∧ (h'.D = D2 ∧ RegSub h' ⟨G, (L1 ++ [.obj l (.loop (rec .ready none))]) ++ L2, D2⟩) ∧ Sat β1 h' w' ∧ Step β1 ⟨G, (L1 ++ [.obj l (.loop (rec .ready none))]) ++ L2, D2⟩ w1 β1 h' w' ∧ R v' h' := by
          rintro jump J R ⟨⟨G4, L4, D4⟩, hgh, hn4, hJ⟩ hR
          obtain ⟨g1, g2, g3, g4⟩ := hgh β3 w3 (sat_D s3)
          dsimp only at g3 hn4 hJ
          subst g3
          obtain ⟨c1, c2⟩ := frame b1 g1 ((step_D st3).trans g2) (by simp [Item.block])
          have hobj3 : w3.heap[l]? = some (.loop { rec .ready none with state := .busy }) := c1.l (.obj l _) (by simp)
          obtain ⟨d1, d2⟩ := sat_obj (.loop { rec .ready none with state := if jump.isNone then .ready else .done, pending := jump }) c1
          have hn4' : NoRegs (L4 ++ [.obj l (.loop { rec .ready none with state := if jump.isNone then .ready else .done, pending := jump })]) := fun s cs hm => by
            rcases List.mem_append.1 hm with h | h
            · exact hn4 s cs h
            · simp at h
          have tot := step_rebase (β2 := β1) hn4' (((f2.trans b2).trans c2).trans d2)
          obtain ⟨z1, z2⟩ := frame hw1 (sat_rebase (β := β1) hn4' d1) tot (fun _ _ => rfl)
          have hreq : ({ rec .ready none with state := if jump.isNone then .ready else .done, pending := jump } : Loop) = { rec (if jump.isNone then .ready else .done) jump with state := if jump.isNone then .ready else .done, pending := jump } := by rw [hrec]
          refine ⟨_, _, run_endRound jump hobj3, _, _, rfl, ⟨rfl, ?_⟩, z1, z2, ?_⟩
          · intro s cs hm
            rcases List.mem_append.1 hm with h | h
            · exact absurd h (hn4' s cs)
            · exact ⟨cs, List.mem_append_right _ h⟩
          · rw [hreq]
            exact hR G4 L4 tot.gm hn4 hJ
        have noR : ∀ L' r, NoRegs L' → NoRegs (L' ++ [.obj l (.loop r)]) := fun L' r hn s cs hm => by
          rcases List.mem_append.1 hm with h | h
          · exact hn s cs h
          · simp at h
        cases ex with
        | normal =>
          refine fin none _ _ q3 fun G' L' hg' hn' hJ => ⟨G', _, rfl, hg', noR _ _ hn', .inl ⟨rfl, L', ?_, hJ, hn'⟩⟩
          rw [hrec]; rfl
        | ret =>
          refine fin (some .ret) _ _ q3 fun G' L' hg' hn' hJ => ⟨G', _, rfl, hg', noR _ _ hn', .inr ⟨rfl, .ret, .ret, L', ?_, rfl, hJ, hn'⟩⟩
          rw [hrec]; rfl
        | exit id =>
          refine fin (some (.exit id)) _ _ q3 fun G' L' hg' hn' hJ => ⟨G', _, rfl, hg', noR _ _ hn', .inr ⟨rfl, .exit id, .exit id, L', ?_, rfl, hJ, hn'⟩⟩
          rw [hrec]; rfl
        | goto t => exact q3.elim
        | panic c => exact q3.elim
        | outgrown => exact q3.elim
      | _ => exact q2.elim
theorem go_rf {α : Type} {fr : List Td} {g : O} {ps : List Nat} {x y : SC} {gf : Nat} {cap : Array Value} {E : (Nat → Option Obj) → α → Array Value → Prop} {xs : List α} (I : Nat → (Nat → Option Obj) → List Item → Prop) (Ix : Exit → Nat → (Nat → Option Obj) → List Item → Prop)
    (hg : ev e g = .func (.func gf) #[] cap) (hEn : Enters P gf) (hL : NoRegs h.L) (hit : IterH P gf cap xs E h.G) (hps : ∀ G x args, E G x args → args.size = ps.length) (h0 : I 0 h.G h.L)
    (round : ∀ l i z args G L, xs[i]? = some z → Gle h.G G → E G z args → I i G L → NoRegs L →
      go (some l) P N rs vs (rndA fun e1 h1 => go (some l) P N rs vs (rndQ (I (i + 1)) (fun ex => Ix ex i)) [.s y] e1 h1) [.s x] (setPs e ps args.toList) ⟨G, L, []⟩)
    (done : ∀ G L d, Gle h.G G → I xs.length G L → NoRegs L → go none P N rs vs Q fr e ⟨G, L, d :: h.D⟩)
    (stop : ∀ ex i G L d, i < xs.length → Gle h.G G → Ix ex i G L → NoRegs L → kS none P N rs vs Q fr ex e ⟨G, L, d :: h.D⟩) : go none P N rs vs Q (.s (.rf g ps x y) :: fr) e h :=
  wK_mono (Q := fun x e h => match x with | .normal => go none P N rs vs Q fr e h | x => kS none P N rs vs Q fr x e h)
    (wK_rf I Ix hg hEn hL hit hps h0 round done (fun ex i G L d h1 h2 h3 h4 => by
      have := stop ex i G L d h1 h2 h3 h4
      cases ex <;> exact this)) fun x e h hq => by cases x <;> exact hq
theorem rnd_a {K : Env → H → Prop} (hk : K e ⟨h.G, h.L, []⟩) : rndA K .normal e h := hk
theorem rnd_n {J : (Nat → Option Obj) → List Item → Prop} {Jx : Exit → (Nat → Option Obj) → List Item → Prop} (L' : List Item) (hs : L'.Sublist h.L) (hn : NoRegs L') (hJ : J h.G L') : rndQ J Jx .normal e h := ⟨⟨h.G, L', []⟩, ghost_sub hs, hn, hJ⟩
theorem rnd_r {J : (Nat → Option Obj) → List Item → Prop} {Jx : Exit → (Nat → Option Obj) → List Item → Prop} (L' : List Item) (hs : L'.Sublist h.L) (hn : NoRegs L') (hJ : Jx .ret h.G L') : rndQ J Jx .ret e h := ⟨⟨h.G, L', []⟩, ghost_sub hs, hn, hJ⟩
theorem rnd_e {id : Nat} {J : (Nat → Option Obj) → List Item → Prop} {Jx : Exit → (Nat → Option Obj) → List Item → Prop} (L' : List Item) (hs : L'.Sublist h.L) (hn : NoRegs L') (hJ : Jx (.exit id) h.G L') : rndQ J Jx (.exit id) e h := ⟨⟨h.G, L', []⟩, ghost_sub hs, hn, hJ⟩
end rules
theorem setPs_nil (e : Env) : setPs e [] [] = e := rfl
theorem setPs_cons (e : Env) (p : Nat) (ps : List Nat) (v : Value) (vs : List Value) : setPs e (p :: ps) (v :: vs) = setPs (e.set p v) ps vs := rfl
attribute [push_cast] setPs_nil setPs_cons
end Go.Kx
