/- The ninth text of the small logic: local variables that lie in memory; regions, in the text's order and in any. No condition. -/
import Derived.Test.YtdiccicokbbcoaaK8
set_option linter.unusedSimpArgs false
set_option linter.unusedVariables false
namespace Go.Kx
open Go Go.RowKit

/-- A slot that holds a field's address of a local variable: the slot, the variable, the place, under which guard. -/
structure ME where
  d : Nat
  s : Nat
  o : Nat
  g : Option (Nat × Bool)
def gOk (v : Value) (b : Bool) : Bool :=
  match v with
  | .bool x => x == b
  | _ => false
def lookM (rs : List Nat) (m : List ME) (g : Option (Nat × Bool)) : Operand → Option (Nat × Nat)
  | .tmp n => if rs.contains n then some (n, 0) else (m.find? (·.d == n)).bind fun x => if x.g = none ∨ x.g = g then some (x.s, x.o) else none
  | _ => none
def isReg (rs : List Nat) : Operand → Option Nat
  | .tmp n => if rs.contains n then some n else none
  | _ => none
def keepM (m : List ME) (d : Option Nat) : List ME := m.filter fun x => x.g.map (·.1) != d
/-- One operation, with its local variables. 'chk': the variables that must be there. -/
def slim1 (P : Program) (N : Nat) (rs vs : List Nat) (m : List ME) (g : Option (Nat × Bool)) (o : Oper) : Option (SOp × List ME × Option Nat) :=
  match o.op with
  | .alloc t =>
    match o.dst with
    | some s => if rs.contains s = true then (if vs.contains s = true ∧ s < N ∧ g = none then ((P.info? t).bind (·.zero)).map fun z => (.alR s z.cells.toList, m.filter (·.s != s), none) else none)
      else (slimN P N vs o).map fun x => (x, keepM m o.dst, none)
    | none => none
  | .box _ x =>
    match o.dst with
    | some s => if rs.contains s = true then (if vs.contains s = true ∧ s < N ∧ g = none then (slO vs N x).map fun y => (.bxR s y, m.filter (·.s != s), none) else none)
      else (slimN P N vs o).map fun x => (x, keepM m o.dst, none)
    | none => none
  | .fieldAddr t x f =>
    match lookM rs m g x with
    | some (s, off) =>
      match o.dst, P.underlying t with
      | some d, some (.struct fs) => if vs.contains d = true ∧ rs.contains d = false ∧ d < N then (fs[f]?).bind fun fd => (P.info? fd.type).bind fun i =>
          if i.size = 0 then none else some (.nop, ⟨d, s, off + fd.offset, g⟩ :: m.filter (·.d != d), isReg rs x) else none
      | _, _ => none
    | none => (slimN P N vs o).map fun x => (x, keepM m o.dst, none)
  | .load t x =>
    match lookM rs m g x with
    | some (s, off) => (dstN vs o).bind fun d => (aggN P t).map fun n => (.ldR d s off n, keepM m o.dst, none)
    | none => (slimN P N vs o).map fun x => (x, keepM m o.dst, none)
  | .store t x y =>
    match lookM rs m g x with
    | some (s, off) => if o.dst.isNone then (slO vs N y).bind fun y => (P.info? t).map fun i => (.stR s off i.size y, keepM m none, none) else none
    | none => (slimN P N vs o).map fun x => (x, keepM m o.dst, none)
  | _ => (slimN P N vs o).map fun x => (x, keepM m o.dst, none)

/-- What an operation asks, with the check that a variable is there. -/
def opC (P : Program) (c : Option Nat) (s : SOp) (e : Env) (h : H) (K : Env → H → Prop) : Prop :=
  match c with
  | none => opS P s e h K
  | some x => match getR x h.L with
    | some _ => opS P s e h K
    | none => False
def opQC (P : Program) (c : Option Nat) (s : SOp) (e : Env) (h : H) (K : Env → Prop) : Prop :=
  match c with
  | none => opQ P s e h K
  | some x => match getR x h.L with
    | some _ => opQ P s e h K
    | none => False

structure MapOk (N : Nat) (rs vs : List Nat) (β : Nat → Nat) (a : Act) (e : Env) (m : List ME) : Prop where
  ok : ∀ x ∈ m, (x.d ∈ vs ∧ rs.contains x.d = false) ∧ ((x.g = none ∨ ∃ d b, x.g = some (d, b) ∧ gOk (e d) b = true) → a.tmps.getD x.d undef = .pointer (some ⟨β x.s, x.o, none⟩))

section sound
variable {r : Option Nat} {P : Program} {N : Nat} {rs vs : List Nat} {β : Nat → Nat} {a : Act} {w : World} {e : Env} {h : H} {o : Oper} {K : Env → H → Prop} {Q : Exit → Act → World → Prop} {s : SOp} {d : Nat} {m m' : List ME} {g : Option (Nat × Bool)} {c : Option Nat}

theorem getD_put_ne {d i : Nat} {v : Value} (hne : d ≠ i) : (a.put (some d) v).tmps.getD i undef = a.tmps.getD i undef := by
  simp only [Act.put, Array.getD_eq_getD_getElem?, Array.getElem?_setIfInBounds]
  rw [if_neg hne]
theorem getD_put_eq {d : Nat} {v : Value} (hd : d < a.tmps.size) : (a.put (some d) v).tmps.getD d undef = v := by
  simp [Act.put, Array.getD_eq_getD_getElem?, hd]

theorem MapOk.keep {a' : Act} {e' : Env} {β' : Nat → Nat} (hm : MapOk N rs vs β a e m) (hg : ∀ x ∈ m, ∀ p, x.g = some p → p.1 < 99999) (hβ : ∀ x ∈ m, β' x.s = β x.s)
    (hk : (∀ i ∈ vs, a'.tmps.getD i undef = a.tmps.getD i undef) ∧ ∀ i, i < 99999 → o.dst ≠ some i → e' i = e i) : MapOk N rs vs β' a' e' (keepM m o.dst) := by
  constructor
  intro x hx
  obtain ⟨hx, hgx⟩ := List.mem_filter.1 hx
  obtain ⟨h1, h2⟩ := hm.ok x hx
  refine ⟨h1, fun hgo => ?_⟩
  rw [hk.1 _ h1.1, hβ x hx]
  apply h2
  rcases hgo with h | ⟨dg, b, h, hb⟩
  · exact .inl h
  · refine .inr ⟨dg, b, h, ?_⟩
    rw [← hk.2 dg (hg x hx _ h) (fun he => by rw [h, he] at hgx; simp at hgx)]
    exact hb
theorem MapOk.sub {l : List ME} (hm : MapOk N rs vs β a e m) (hs : ∀ x ∈ l, x ∈ m) : MapOk N rs vs β a e l := ⟨fun x hx => hm.ok x (hs x hx)⟩

/-- Behind an operation, with the places. -/
def AfterM (r : Option Nat) (N : Nat) (rs vs : List Nat) (h : H) (β : Nat → Nat) (w : World) (m : List ME) (K : Env → H → Prop) : Act → World → Prop :=
  fun a' w' => ∃ β' e' h', Rel r N rs vs β' a' e' h' ∧ MapOk N rs vs β' a' e' m ∧ Sat β' h' w' ∧ Step β h w β' h' w' ∧ K e' h'

theorem wpIn_mono' {X Y : Act → World → Prop} (hh : o.wpIn (Fr r) 0 P a w X Q) (hxy : ∀ a w, X a w → Y a w) : o.wpIn (Fr r) 0 P a w Y Q := Oper.wpIn_mono hxy hh
theorem opN_soundM (hs : slimN P N vs o = some s) (hN : N ≤ 99999) (hr : Rel r N rs vs β a e h) (hw : Sat β h w) (hk : opS P s e h K) (hm : MapOk N rs vs β a e m) (hg : ∀ x ∈ m, ∀ p, x.g = some p → p.1 < 99999) :
    o.wpIn (Fr r) 0 P a w (AfterM r N rs vs h β w (keepM m o.dst) K) Q :=
  wpIn_mono' (opN_sound hs hN hr hw hk) fun _ _ ⟨e', h', h1, h2, h3, h4, h5⟩ => ⟨β, e', h', h1, hm.keep hg (fun _ _ => rfl) h4, h2, h3, h5⟩

/-- The address of a place of a local variable. -/
theorem lookM_ok {x : Operand} {s off : Nat} (hl : lookM rs m g x = some (s, off)) (hr : Rel r N rs vs β a e h) (hm : MapOk N rs vs β a e m) (hg : g = none ∨ ∃ d b, g = some (d, b) ∧ gOk (e d) b = true)
    (hreg : ∀ n, isReg rs x = some n → ∃ cs, Item.reg n cs ∈ h.L) : a.eval x = .pointer (some ⟨β s, off, none⟩) := by
  unfold lookM at hl
  split at hl
  · rename_i n
    split at hl
    · rename_i hn
      cases hl
      obtain ⟨cs, hcs⟩ := hreg _ (by simp only [isReg]; rw [if_pos hn])
      exact (hr.reg _ cs hcs).2.2
    · simp only [Option.bind_eq_some_iff] at hl
      obtain ⟨x, hx, hl⟩ := hl
      split at hl
      · rename_i hxg
        cases hl
        have hmem := List.mem_of_find?_eq_some hx
        have hd : x.d = n := by simpa using List.find?_some hx
        have := (hm.ok x hmem).2 (by rcases hxg with h | h; exact .inl h; rw [h]; exact hg)
        rw [hd] at this
        exact this
      · cases hl
  · cases hl
theorem isReg_look {x : Operand} {s off n : Nat} (hl : lookM rs m g x = some (s, off)) (hn : isReg rs x = some n) : s = n ∧ off = 0 := by
  unfold isReg at hn
  split at hn
  · split at hn
    · rename_i hc
      cases hn
      simp only [lookM] at hl
      rw [if_pos hc] at hl
      cases hl
      exact ⟨rfl, rfl⟩
    · cases hn
  · cases hn
theorem getR_mem {s : Nat} {cs : List Value} {L : List Item} (hs : getR s L = some cs) : Item.reg s cs ∈ L := by
  obtain ⟨L1, L2, rfl, _⟩ := getR_split hs
  simp
theorem add_lit (b o k : Nat) : (⟨b, o, none⟩ : Addr).add k = ⟨b, o + k, none⟩ := by unfold Addr.add; split <;> simp_all

/-- A new local variable. -/
theorem sat_newR {G : Nat → Option Obj} {L : List Item} {D : List Nat} {cs : List Value} {t : TypeId} (hw : Sat β ⟨G, L, D⟩ w) (s : Nat) :
    Sat (fun i => if i = s then w.heap.size else β i) ⟨G, .reg s cs :: rmR s L, D⟩ (w.alloc (.cells cs.toArray t)) ∧ Step β ⟨G, L, D⟩ w (fun i => if i = s then w.heap.size else β i) ⟨G, .reg s cs :: rmR s L, D⟩ (w.alloc (.cells cs.toArray t)) := by
  have hblk : ∀ it ∈ rmR s L, it.block (fun i => if i = s then w.heap.size else β i) = it.block β := by
    intro it hit
    obtain ⟨_, h2⟩ := rmR_mem hit
    cases it with
    | reg s' c => have : ¬ s' = s := fun he => h2 c (by rw [he]); simp [Item.block, this]
    | blk b c => rfl
    | row v e sz n xs => rfl
    | obj b o => rfl
  have hdom : dom (fun i => if i = s then w.heap.size else β i) (rmR s L) = dom β (rmR s L) := by
    unfold dom
    generalize rmR s L = l at hblk
    induction l with
    | nil => rfl
    | cons it l ih =>
      have h1 := hblk it (by simp)
      have h2 := ih (fun x hx => hblk x (by simp [hx]))
      simp only [List.filterMap_cons, h1, h2]
  have hsub := (rmR_sub (s := s) L)
  have hd2 : (dom β (rmR s L)).Sublist (dom β L) := hsub.filterMap _
  refine sat_change hw rfl rfl rfl (by simp) (fun b hb _ => heap_alloc_old w _ hb) ?_ ?_ ?_
  · intro it hit
    rcases List.mem_cons.1 hit with rfl | hit
    · exact ⟨t, by simpa using heap_alloc_new w _⟩
    · exact Item.ok_of (hw.l it (hsub.subset hit)) (fun b hb => heap_alloc_old w _ (Item.ok_lt (hw.l it (hsub.subset hit)) hb)) (hblk it hit)
  · rw [dom_cons, hdom]
    refine List.nodup_append.2 ⟨by simp [Item.block], hd2.nodup hw.nd', fun b hb c hc => ?_⟩
    have h1 : b = w.heap.size := by simpa [Item.block] using hb
    have h2 := hw.dom_lt (hd2.subset hc)
    omega
  · intro b hb
    rw [dom_cons, hdom] at hb
    rcases List.mem_append.1 hb with h | h
    · right; have h1 : b = w.heap.size := by simpa [Item.block] using h
      omega
    · exact .inl (hd2.subset h)
theorem Rel.newR {G : Nat → Option Obj} {L : List Item} {D : List Nat} {cs : List Value} {s b : Nat} (hr : Rel r N rs vs β a e ⟨G, L, D⟩) (hsr : rs.contains s = true) (hsv : vs.contains s = true) (hsN : s < N) (ho : o.dst = some s) :
    Rel r N rs vs (fun i => if i = s then b else β i) (a.put o.dst (.pointer (some ⟨b, 0, none⟩))) e ⟨G, .reg s cs :: rmR s L, D⟩ := by
  have hsv' : s ∈ vs := by simpa using hsv
  have hsr' : s ∈ rs := by simpa using hsr
  rw [ho]
  refine ⟨by simp [Act.put, hr.size], fun i hi hv => ?_, fun s' cs' hs' => ?_, hr.dfr⟩
  · rw [getD_put_ne (fun he => hv (by rw [← he]; exact hsv'))]
    exact hr.env i hi hv
  · rcases List.mem_cons.1 hs' with h | h
    · injection h with h1 h2
      subst h1
      exact ⟨⟨hsr', hsv'⟩, hsN, by rw [getD_put_eq (by rw [hr.size]; exact hsN)]; simp⟩
    · obtain ⟨h1, h2⟩ := rmR_mem h
      have hne : ¬ s' = s := fun he => h2 cs' (by rw [he])
      obtain ⟨g1, g2, g3⟩ := hr.reg s' cs' h1
      refine ⟨g1, g2, ?_⟩
      rw [getD_put_ne (fun he => hne he.symm), g3]
      simp [hne]

/-- **One operation, local variables and all.** -/
theorem op1_sound (hs : slim1 P N rs vs m g o = some (s, m', c)) (hN : N ≤ 99999) (hr : Rel r N rs vs β a e h) (hw : Sat β h w) (hk : opC P c s e h K) (hm : MapOk N rs vs β a e m) (hg : ∀ x ∈ m, ∀ p, x.g = some p → p.1 < 99999)
    (hgo : g = none ∨ ∃ d b, g = some (d, b) ∧ gOk (e d) b = true) : o.wpIn (Fr r) 0 P a w (AfterM r N rs vs h β w m' K) Q := by
  have normal : ∀ {s m' c}, (slimN P N vs o).map (fun x => (x, keepM m o.dst, (none : Option Nat))) = some (s, m', c) → opC P c s e h K → o.wpIn (Fr r) 0 P a w (AfterM r N rs vs h β w m' K) Q := by
    intro s m' c hs hk
    simp only [Option.map_eq_some_iff, Prod.mk.injEq] at hs
    obtain ⟨x, hx, rfl, rfl, rfl⟩ := hs
    exact opN_soundM hx hN hr hw hk hm hg
  have newv : ∀ {s0 : Nat} {cs : List Value} {t : TypeId}, vs.contains s0 = true → s0 < N → o.dst = some s0 → nodefer o → (execOp a.eval o).run P w = .ok (.value (.pointer (some ⟨w.heap.size, 0, none⟩))) (w.alloc (.cells cs.toArray t)) →
      K e { h with L := .reg s0 cs :: rmR s0 h.L } → (hsr : rs.contains s0 = true) → o.wpIn (Fr r) 0 P a w (AfterM r N rs vs h β w (m.filter (·.s != s0)) K) Q := by
    intro s0 cs t h1 h2 h3 h4 hrun hk hsr
    obtain ⟨G, L, D⟩ := h
    have hsw := sat_newR (cs := cs) (t := t) hw s0
    refine wp_value h4 hrun ⟨fun i => if i = s0 then w.heap.size else β i, e, ⟨G, .reg s0 cs :: rmR s0 L, D⟩, hr.newR hsr h1 h2 h3, ?_, hsw.1, hsw.2, hk⟩
    constructor
    intro x hx
    obtain ⟨hx, hxs⟩ := List.mem_filter.1 hx
    obtain ⟨g1, g2⟩ := hm.ok x hx
    refine ⟨g1, fun hgx => ?_⟩
    have hne : ¬ x.s = s0 := by simpa using hxs
    have hdne : ¬ s0 = x.d := fun he => by rw [← he] at g1; rw [hsr] at g1; cases g1.2
    rw [h3, getD_put_ne hdne, g2 hgx]
    simp [hne]
  unfold slim1 at hs
  cases ho : o.op <;> simp only [ho] at hs <;> try exact normal hs hk
  case alloc t =>
    split at hs
    · rename_i s0 hd
      split at hs
      · rename_i hrs
        split at hs
        · rename_i hc
          simp only [Option.map_eq_some_iff, Option.bind_eq_some_iff, Prod.mk.injEq] at hs
          obtain ⟨z, ⟨i, hi, hz⟩, rfl, rfl, rfl⟩ := hs
          refine newv (t := t) hc.1 hc.2.1 hd (nd ho rfl) ?_ hk hrs
          simp [execOp, ho, Instr.alloc, run_zero hi hz, newVar, newRow]
        · cases hs
      · exact normal hs hk
    · cases hs
  case box t x =>
    split at hs
    · rename_i s0 hd
      split at hs
      · rename_i hrs
        split at hs
        · rename_i hc
          simp only [Option.map_eq_some_iff, Prod.mk.injEq] at hs
          obtain ⟨y, hy, rfl, rfl, rfl⟩ := hs
          refine newv (t := t) hc.1 hc.2.1 hd (nd ho rfl) ?_ hk hrs
          simp [execOp, ho, Instr.box, newVar, newRow, slO_ev hr hy, cellsL]
        · cases hs
      · exact normal hs hk
    · cases hs
  case fieldAddr t x f =>
    split at hs
    · rename_i s0 off hl
      split at hs
      · rename_i d fs hd hu
        split at hs
        · rename_i hc
          simp only [Option.bind_eq_some_iff] at hs
          obtain ⟨fd, hfd, i, hi, hs⟩ := hs
          split at hs
          · cases hs
          · rename_i hne
            simp only [Option.some.injEq, Prod.mk.injEq] at hs
            obtain ⟨rfl, rfl, rfl⟩ := hs
            have hreg : (∀ n, isReg rs x = some n → ∃ cs, Item.reg n cs ∈ h.L) ∧ K e h := by
              unfold opC at hk
              split at hk
              · rename_i hn
                exact ⟨fun n hn' => (by rw [hn] at hn'; cases hn'), hk⟩
              · rename_i n hn
                split at hk
                · rename_i cs hcs
                  exact ⟨fun n' hn' => (by rw [hn] at hn'; cases hn'; exact ⟨cs, getR_mem hcs⟩), hk⟩
                · exact hk.elim
            have hx := lookM_ok hl hr hm hgo hreg.1
            have hdv : d ∈ vs := by simpa using hc.1
            refine wp_value (nd ho rfl) (w' := w) (v := .pointer (some ⟨β s0, off + fd.offset, none⟩)) ?_ ⟨β, e, h, ?_, ?_, hw, .refl _ _ _, hreg.2⟩
            · simp [execOp, ho, hx, Instr.fieldAt, run_underlying hu, hfd, Instr.sureAddr, fieldPlace, run_sizeOf hi, hne, add_lit]
            · rw [hd]
              refine ⟨by simp [Act.put, hr.size], fun i hi hv => ?_, fun s' cs' hs' => ?_, hr.dfr⟩
              · rw [getD_put_ne (fun he => hv (by rw [← he]; exact hdv))]
                exact hr.env i hi hv
              · obtain ⟨g1, g2, g3⟩ := hr.reg s' cs' hs'
                refine ⟨g1, g2, ?_⟩
                have hne : ¬ d = s' := fun he => by
                  have h1 : rs.contains d = true := by rw [he]; simpa using g1.1
                  rw [hc.2.1] at h1
                  cases h1
                rw [getD_put_ne hne]
                exact g3
            · rw [hd]
              constructor
              intro y hy
              rcases List.mem_cons.1 hy with rfl | hy
              · exact ⟨⟨hdv, hc.2.1⟩, fun _ => getD_put_eq (by rw [hr.size]; exact hc.2.2)⟩
              · obtain ⟨hy, hyd⟩ := List.mem_filter.1 hy
                obtain ⟨g1, g2⟩ := hm.ok y hy
                refine ⟨g1, fun hgy => ?_⟩
                have hne : ¬ d = y.d := fun he => by simp [he] at hyd
                rw [getD_put_ne hne]
                exact g2 hgy
        · cases hs
      · cases hs
    · exact normal hs hk
  case load t x =>
    split at hs
    · rename_i s0 off hl
      simp only [Option.bind_eq_some_iff, Option.map_eq_some_iff, Prod.mk.injEq] at hs
      obtain ⟨d, hd, n, hn, rfl, rfl, rfl⟩ := hs
      simp only [opC, opS] at hk
      split at hk
      · rename_i cs hcs
        split at hk
        · rename_i v hv
          have hx := lookM_ok hl hr hm hgo (fun n' hn' => ⟨cs, by rw [← (isReg_look hl hn').1]; exact getR_mem hcs⟩)
          obtain ⟨te, hte⟩ := hw.l _ (getR_mem hcs)
          have hld : (Instr.loadAt t (.pointer (some ⟨β s0, off, none⟩))).run P w = .ok v w := by
            have hsat : Sat β ⟨fun _ => none, [.blk (β s0) cs], []⟩ w := ⟨fun _ _ h => (by cases h), fun it hit => (by simp at hit; subst hit; exact ⟨te, hte⟩), by simp [dom, Item.block], fun _ _ => rfl, fun _ h => (by cases h)⟩
            refine run_loadAt hsat hn ?_
            cases n with
            | none => exact ⟨_, rfl, .blk (cs := cs) (by simp) (by simpa [ldC] using hv)⟩
            | some k =>
              simp only [ldC] at hv
              split at hv
              · rename_i hle
                cases hv
                refine ⟨_, _, rfl, rfl, by simp; omega, fun j u hu => ?_⟩
                rw [add_lit]
                refine .blk (cs := cs) (by simp) ?_
                simp only [List.getElem?_take, List.getElem?_drop] at hu
                split at hu
                · exact hu
                · cases hu
              · cases hv
          refine wp_value (nd ho rfl) (w' := w) (v := v) ?_ ⟨β, _, _, hr.put hN hd v, hm.keep hg (fun _ _ => rfl) (put_keeps hd v), hw, .refl _ _ _, hk⟩
          simp only [execOp, ho, hx, Sem.run_bind, hld, Result.andThen_ok]
          rfl
        · exact hk.elim
      · exact hk.elim
    · exact normal hs hk
  case store t x y =>
    split at hs
    · rename_i s0 off hl
      split at hs
      · rename_i hdn
        have hdn' : o.dst = none := by simpa using hdn
        simp only [Option.bind_eq_some_iff, Option.map_eq_some_iff, Prod.mk.injEq] at hs
        obtain ⟨y', hy, i, hi, rfl, rfl, rfl⟩ := hs
        simp only [opC, opS] at hk
        split at hk
        · rename_i cs hcs
          obtain ⟨⟨h1, h2, h3⟩, hk⟩ := hk
          have hx := lookM_ok hl hr hm hgo (fun n' hn' => ⟨cs, by rw [← (isReg_look hl hn').1]; exact getR_mem hcs⟩)
          obtain ⟨G, L, D⟩ := h
          dsimp only at hcs hk
          obtain ⟨L1, L2, hL, hset⟩ := getR_split hcs
          subst hL
          rw [hset] at hk
          obtain ⟨te, hte⟩ := hw.l (.reg s0 cs) (by simp)
          obtain ⟨w', e1, e2, e3, e4, e5, e6, e7⟩ := run_storeAt (P := P) (t := t) (y := ev e y') (o := off) hi hte rfl h1 (by rw [show (ev e y').cells.toList.length = i.size from h1]; exact h2) (fun u hu => List.all_eq_true.1 h3 u hu)
          have sw := sat_swap (it' := .reg s0 (splice cs off (cellsL (ev e y')))) hw e5 e6 e7 (by omega) (fun b' _ hne => e3 b' (fun he => hne (by rw [he]; rfl))) ⟨te, e2⟩ (fun b' hb' => .inl hb')
          refine wp_skip' (nd ho rfl) (w' := w') ?_ ⟨β, e, ⟨G, L1 ++ .reg s0 (splice cs off (cellsL (ev e y'))) :: L2, D⟩, (hr.put' hdn' _).to ?_ rfl, ?_, sw.1, sw.2, hk⟩
          · simp only [execOp, ho, hx, slO_ev hr hy, Sem.run_bind, e1, Result.andThen_ok]
            rfl
          · intro s' cs' hs'
            rcases List.mem_append.1 hs' with h | h
            · exact ⟨cs', by simp [h]⟩
            · rcases List.mem_cons.1 h with h | h
              · injection h with h _; subst h; exact ⟨cs, by simp⟩
              · exact ⟨cs', by simp [h]⟩
          · rw [hdn']
            exact hm.sub (fun x hx => (List.mem_filter.1 hx).1)
        · exact hk.elim
      · cases hs
    · exact normal hs hk
end sound
end Go.Kx
