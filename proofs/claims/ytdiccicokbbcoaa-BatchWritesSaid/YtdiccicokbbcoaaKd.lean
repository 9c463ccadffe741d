/- The thirteenth text of the small logic: a function's contract out of its body's walk. No condition. -/
import Derived.Test.YtdiccicokbbcoaaKc
import Derived.RangeFuncRecord
set_option linter.unusedSimpArgs false
set_option linter.unusedVariables false
namespace Go.Kx
open Go Go.RowKit

section entry
variable {P : Program} {N : Nat} {rs vs : List Nat} {β : Nat → Nat} {a : Act} {w : World} {e : Env} {h : H}

theorem getB_mem {b : Nat} {cs : List Value} : ∀ {L : List Item}, getB b L = some cs → Item.blk b cs ∈ L
  | .blk b' c :: L, h => by
    simp only [getB] at h
    split at h
    · rename_i he; subst he; cases h; exact .head _
    · exact .tail _ (getB_mem h)
  | .reg _ _ :: L, h => .tail _ (getB_mem (L := L) h)
  | .row _ _ _ _ _ :: L, h => .tail _ (getB_mem (L := L) h)
  | .obj _ _ :: L, h => .tail _ (getB_mem (L := L) h)
theorem blkO_eq {v : Value} {b : Nat} (h : blkO v = some b) : v = .pointer (some ⟨b, 0, none⟩) := by
  unfold blkO at h
  split at h
  · cases h; rfl
  · cases h
theorem ld_cell {P : Program} {w : World} {b : Nat} {cs : List Value} {te t : TypeId} {n : Option Nat} {v : Value} (hn : aggN P t = some n) (hte : w.heap[b]? = some (.cells cs.toArray te (0, 0))) (hv : ldC cs 0 n = some v) : (loadVar t ⟨b, 0, none⟩).run P w = .ok v w := by
  have hld : (Instr.loadAt t (.pointer (some ⟨b, 0, none⟩))).run P w = .ok v w := by
    have hsat : Sat (fun _ => 0) ⟨fun _ => none, [.blk b cs], []⟩ w := ⟨fun _ _ h => (by cases h), fun it hit => (by simp at hit; subst hit; exact ⟨te, hte⟩), by simp [dom, Item.block], fun _ _ => rfl, fun _ h => (by cases h)⟩
    refine run_loadAt hsat hn ?_
    cases n with
    | none => exact ⟨_, rfl, .blk (cs := cs) (by simp) (by simpa [ldC] using hv)⟩
    | some k =>
      simp only [ldC] at hv
      split at hv
      · rename_i hle
        cases hv
        refine ⟨_, _, rfl, rfl, by simp; omega, fun j u hu => ?_⟩
        rw [add_lit]
        refine .blk (cs := cs) (by simp) ?_
        simp only [List.getElem?_take, List.getElem?_drop] at hu
        split at hu
        · exact hu
        · cases hu
      · cases hv
  simpa [Instr.loadAt, Instr.sureAddr] using hld
def resF (tmps : Array Value) : ResultVar → Sem Value
  | .tmp t => pure (tmps.getD t undef)
  | .cell p t => do loadVar t (← asAddr (tmps.getD p undef))
theorem resV_run {ro : Option Nat} (hr : Rel ro N rs vs β a e h) (hw : Sat β ⟨h.G, h.L, []⟩ w) : ∀ (l : List ResultVar) (rl : List RS) (out : List Value), slimR P N rs vs l = some rl → resV e h rl = some out →
    (l.mapM (resF a.tmps)).run P w = .ok out w
  | [], rl, out, h1, h2 => by
    simp only [slimR, Option.some.injEq] at h1
    subst h1
    simp only [resV, Option.some.injEq] at h2
    subst h2
    simp
  | .tmp n :: l, rl, out, h1, h2 => by
    simp only [slimR] at h1
    split at h1
    · rename_i hn
      simp only [Option.map_eq_some_iff] at h1
      obtain ⟨rl', h1, rfl⟩ := h1
      simp only [resV, Option.map_eq_some_iff] at h2
      obtain ⟨out', h2, rfl⟩ := h2
      have ih := resV_run hr hw l rl' out' h1 h2
      have he := hr.env n hn.1 (by simpa using hn.2)
      simp only [List.mapM_cons, resF, Sem.run_bind, Sem.run_pure, Result.andThen_ok, he]
      rw [ih]
      rfl
    · cases h1
  | .cell s t :: l, rl, out, h1, h2 => by
    simp only [slimR] at h1
    split at h1
    · simp only [Option.bind_eq_some_iff, Option.map_eq_some_iff] at h1
      obtain ⟨n, hn, rl', h1, rfl⟩ := h1
      simp only [resV, Option.bind_eq_some_iff, Option.map_eq_some_iff] at h2
      obtain ⟨cs, hcs, v, hv, out', h2, rfl⟩ := h2
      have ih := resV_run hr hw l rl' out' h1 h2
      have hreg := (hr.reg s cs (getR_mem hcs)).2.2
      obtain ⟨te, hte⟩ := hw.l _ (getR_mem hcs)
      have hld' := ld_cell hn hte hv
      simp only [List.mapM_cons, resF, Sem.run_bind, hreg, asAddr, Sem.run_pure, Result.andThen_ok, hld']
      rw [ih]
      rfl
    · split at h1
      · rename_i hsN
        simp only [Option.bind_eq_some_iff, Option.map_eq_some_iff] at h1
        obtain ⟨n, hn, rl', h1, rfl⟩ := h1
        simp only [resV, Option.bind_eq_some_iff, Option.map_eq_some_iff] at h2
        obtain ⟨b, hb, cs, hcs, v, hv, out', h2, rfl⟩ := h2
        have ih := resV_run hr hw l rl' out' h1 h2
        have he := hr.env s hsN.1 (by simpa using hsN.2)
        have hes := blkO_eq hb
        rw [hes] at he
        obtain ⟨te, hte⟩ := hw.l _ (getB_mem hcs)
        have hld' := ld_cell hn hte hv
        simp only [List.mapM_cons, resF, Sem.run_bind, he, asAddr, Sem.run_pure, Result.andThen_ok, hld']
        rw [ih]
        rfl
      · cases h1

theorem results_run {fn : Func} {ro : Option Nat} (hr : Rel ro N rs vs β a e h) (hw : Sat β ⟨h.G, h.L, []⟩ w) {rl : List RS} {out : List Value} (h1 : slimR P N rs vs fn.results.toList = some rl) (h2 : resV e h rl = some out) : (results fn a.tmps).run P w = .ok (tupV out) w := by
  have h3 := resV_run (P := P) hr hw fn.results.toList rl out h1 h2
  have h4 : (fn.results.mapM (resF a.tmps)).run P w = .ok out.toArray w := by
    rw [Array.mapM_eq_mapM_toList]
    simp only [Sem.run_map, h3, Result.andThen_ok]
  have h5 : results fn a.tmps = (fn.results.mapM (resF a.tmps) >>= fun vs => pure (if h : vs.size = 1 then vs[0] else .tuple vs)) := rfl
  rw [h5]
  simp only [Sem.run_bind, h4, Result.andThen_ok, Sem.run_pure, tupV]
  match out with
  | [] => rfl
  | [v] => rfl
  | v :: u :: l => simp

/-- Behind the deferred calls (there are none). -/
theorem leaves_marks {fn : Func} {tmps : Array Value} {R : Ending → World → Prop} : ∀ (D : List Nat) (w : World), D.Nodup → (∀ b ∈ D, w.heap[b]? = some (.deferred (some []))) →
    (∀ w' : World, w'.os = w.os → w'.tape = w.tape → w'.output = w.output → w'.heap.size = w.heap.size → (∀ b, b ∉ D → w'.heap[b]? = w.heap[b]?) → ∃ v, (results fn tmps).run P w' = .ok v w' ∧ R (.returned v) w') →
    LeavesInM (Fr none) 0 P fn tmps R (D.map fun b => { target := .collected b, args := #[] }) .returning w
  | [], w, _, _, hr => by
    obtain ⟨v, h1, h2⟩ := hr w rfl rfl rfl rfl (fun _ _ => rfl)
    exact ⟨v, h1, h2⟩
  | b :: D, w, hnd, hD, hr => by
    have hb := hD b (by simp)
    have hlt := (Array.getElem?_eq_some_iff.1 hb).1
    have hnd' := List.nodup_cons.1 hnd
    have hput : ∀ i, i ≠ b → (w.putObj b (.deferred none)).heap[i]? = w.heap[i]? := fun i hi => World.putObj_heap_other (by omega)
    refine ⟨by simp, .inl ⟨b, w.putObj b (.deferred none), rfl, run_takeDeferred hb, ?_⟩⟩
    refine leaves_marks D _ hnd'.2 (fun i hi => by rw [hput i (fun he => hnd'.1 (he ▸ hi))]; exact hD i (by simp [hi])) fun w' e1 e2 e3 e4 e5 => ?_
    refine hr w' e1 e2 e3 (by rw [e4]; simp [World.putObj]) fun i hi => ?_
    rw [e5 i (fun hm => hi (by simp [hm])), hput i (fun he => hi (by simp [he]))]

def NoRegs (L : List Item) : Prop := ∀ s cs, Item.reg s cs ∉ L
/-- What is asked where a function ends. -/
def retQ (rl : List RS) (R : Value → H → Prop) : Exit → Env → H → Prop
  | .normal, e, h | .ret, e, h => ∃ out, resV e h rl = some out ∧ ∃ h', Ghost ⟨h.G, h.L, []⟩ h' ∧ NoRegs h'.L ∧ R (tupV out) h'
  | _, _, _ => False
def env0 (args : Array Value) : Env := fun i => args.getD i undef
theorem dom_noRegs {β β' : Nat → Nat} : ∀ {L : List Item}, NoRegs L → dom β L = dom β' L
  | [], _ => rfl
  | it :: L, h => by
    rw [dom_cons, dom_cons, dom_noRegs (fun s cs hm => h s cs (by simp [hm]) : NoRegs L)]
    congr 2
    cases it with
    | reg s cs => exact absurd (by simp) (h s cs)
    | blk b cs => rfl
    | row v e sz n xs => rfl
    | obj b o => rfl
theorem ok_noRegs {β β' : Nat → Nat} {it : Item} (hn : ∀ s cs, it ≠ .reg s cs) (h : it.ok β w) : it.ok β' w := by
  cases it with
  | reg s cs => exact absurd rfl (hn s cs)
  | blk b cs => exact h
  | row v e sz n xs => exact h
  | obj b o => exact h

/-- **A function's contract out of its body's walk.** -/
theorem callsH_of {f : FuncId} {fn : Func} {c : Code} {s : SC} {rl : List RS} {args : Array Value} {G : Nat → Option Obj} {L1 : List Item} {R : Value → H → Prop} (hf : P.funcs[f]? = some fn) (hb : fn.body = some c) (hE : Enters P f) (hs : slimC P fn.ntmps rs vs c = some s)
    (hrl : slimR P fn.ntmps rs vs fn.results.toList = some rl) (hargs : args.size ≤ fn.ntmps) (hL1 : NoRegs L1) (hbody : wK none P fn.ntmps rs vs s (retQ rl R) (env0 args) ⟨G, L1, []⟩) (L2 : List Item) (D : List Nat) :
    CallsH P f args ⟨G, L1 ++ L2, D⟩ fun v h' => ∃ G' L', h' = ⟨G', L' ++ L2, D⟩ ∧ NoRegs L' ∧ R v ⟨G', L', []⟩ := by
  refine ⟨hE, fun β w hw => ?_⟩
  have hnd0 := List.nodup_append.1 hw.nd
  have hndL := hnd0.1
  rw [dom_append] at hndL
  have hndL' := List.nodup_append.1 hndL
  have hw1 : Sat β ⟨G, L1, []⟩ w := ⟨hw.g, fun it h => hw.l it (by simp [h]), by simpa using hndL'.1, fun b hb => hw.df b (by rw [dom_append]; simp only [List.append_nil] at hb; simp [hb]), fun _ h => by cases h⟩
  have hr1 : Rel none fn.ntmps rs vs β { tmps := args ++ Array.replicate (fn.ntmps - args.size) undef, defers := [] } (env0 args) ⟨G, L1, []⟩ := by
    refine ⟨by simp; omega, fun i hi _ => ?_, fun s cs hs => absurd hs (hL1 s cs), by simp⟩
    simp only [env0, Array.getD_eq_getD_getElem?, Array.getElem?_append, Array.getElem?_replicate]
    split
    · rfl
    · rename_i hlt
      rw [if_pos (by omega), Array.getElem?_eq_none (by omega)]
      rfl
  have hcall : CallsIn (Fr none) 0 P f args w fun x w' => ∃ v h', x = .returned v ∧ (h'.D = D ∧ RegSub h' ⟨G, L1 ++ L2, D⟩) ∧ Sat β h' w' ∧ Step β ⟨G, L1 ++ L2, D⟩ w β h' w' ∧ ∃ G' L', h' = ⟨G', L' ++ L2, D⟩ ∧ NoRegs L' ∧ R v ⟨G', L', []⟩ := by
    refine callsIn_of_wp_marks hf hb trivial (wpIn_mono (hbody c hs β _ w hr1 hw1) ?_)
    have fin : ∀ (a' : Act) (w' : World) (β' : Nat → Nat) (e' : Env) (h' : H), Rel none fn.ntmps rs vs β' a' e' h' → Sat β' h' w' → Step β ⟨G, L1, []⟩ w β' h' w' → (∃ out, resV e' h' rl = some out ∧ ∃ h'', Ghost ⟨h'.G, h'.L, []⟩ h'' ∧ NoRegs h''.L ∧ R (tupV out) h'') →
        LeavesInM (Fr none) 0 P fn a'.tmps (fun x w' => ∃ v h', x = .returned v ∧ (h'.D = D ∧ RegSub h' ⟨G, L1 ++ L2, D⟩) ∧ Sat β h' w' ∧ Step β ⟨G, L1 ++ L2, D⟩ w β h' w' ∧ ∃ G' L', h' = ⟨G', L' ++ L2, D⟩ ∧ NoRegs L' ∧ R v ⟨G', L', []⟩) a'.defers .returning w' := by
      rintro a' w' β' e' h' hr' hw' st' ⟨out, hout, h2, hgh, hnr, hR⟩
      have hdf := hr'.dfr
      simp only [Option.isSome_none, Bool.false_eq_true, if_false] at hdf
      rw [hdf]
      have hndd := List.nodup_append.1 hw'.nd
      refine leaves_marks h'.D w' hndd.2.1 hw'.d fun w3 e1 e2 e3 e4 e5 => ?_
      obtain ⟨l, hl, hlb⟩ := st'.dn
      simp only [List.append_nil] at hl
      have hDge : ∀ b ∈ h'.D, w.heap.size ≤ b := fun b hb => hlb b (by rw [← hl]; exact hb)
      have hs3 : Sat β' ⟨h'.G, h'.L, []⟩ w3 := by
        refine ⟨fun b o hb => ?_, fun it hit => ?_, by simpa using hndd.1, fun b hb => hw'.df b (by simp only [List.append_nil] at hb; exact List.mem_append_left _ hb), fun _ h => by cases h⟩
        · rw [e5 b (fun hm => by have := hw'.df b (List.mem_append_right _ hm); rw [this] at hb; cases hb)]
          exact hw'.g b o hb
        · exact Item.ok_of (hw'.l it hit) (fun b hb => e5 b (fun hm => hndd.2.2 b (List.mem_filterMap.2 ⟨it, hit, hb⟩) b hm rfl)) rfl
      have hst3 : Step β ⟨G, L1, []⟩ w β' ⟨h'.G, h'.L, []⟩ w3 := by
        refine ⟨e1.trans st'.os, e2.trans st'.tape, e3.trans st'.output, by rw [e4]; exact st'.size, fun b hb hn => ?_, st'.gm, st'.gn, st'.ln, [], rfl, by simp⟩
        rw [e5 b (fun hm => by have := hDge b hm; omega)]
        exact st'.old b hb hn
      obtain ⟨g1, g2, g3, g4⟩ := hgh β' w3 hs3
      have hst := hst3.trans g2
      obtain ⟨G2, L', D2⟩ := h2
      have hD2 : D2 = [] := g3
      subst hD2
      have hd' : dom β' L' = dom β L' := dom_noRegs hnr
      refine ⟨tupV out, results_run hr' hs3 hrl hout, tupV out, ⟨G2, L' ++ L2, D⟩, rfl, ⟨rfl, ?_⟩, ?_, ?_, G2, L', rfl, hnr, hR⟩
      · intro s cs hs
        rcases List.mem_append.1 hs with h | h
        · exact absurd h (hnr s cs)
        · exact ⟨cs, by simp [h]⟩
      · -- what is owned holds
        have hlt2 : ∀ b, b ∈ dom β L2 ∨ b ∈ D → b < w.heap.size := fun b hb => by
          rcases hb with hb | hb
          · exact hw.dom_lt (by rw [dom_append]; simp [hb])
          · exact hw.d_lt hb
        have hnew : ∀ b, b ∈ dom β L' → b ∈ dom β L1 ∨ w.heap.size ≤ b := fun b hb => hst.ln b (by rw [hd']; exact hb)
        have hn1 : ∀ b, b ∈ dom β L2 ∨ b ∈ D → b ∉ dom β L1 := fun b hb hm => by
          rcases hb with hb | hb
          · exact hndL'.2.2 b hm b hb rfl
          · exact hnd0.2.2 b (by rw [dom_append]; simp [hm]) b hb rfl
        have hkeep : ∀ b, b ∈ dom β L2 ∨ b ∈ D → w3.heap[b]? = w.heap[b]? := fun b hb => hst.old b (hlt2 b hb) (hn1 b hb)
        have hsep : ∀ b, b ∈ dom β L' → ¬ (b ∈ dom β L2 ∨ b ∈ D) := fun b hb hc => by
          rcases hnew b hb with h | h
          · exact hn1 b hc h
          · have := hlt2 b hc; omega
        refine ⟨g1.g, fun it hit => ?_, ?_, fun b hb => ?_, fun b hb => ?_⟩
        · rcases List.mem_append.1 hit with h | h
          · exact ok_noRegs (fun s cs he => hnr s cs (he ▸ h)) (g1.l it h)
          · exact Item.ok_of (hw.l it (by simp [h])) (fun b hb => hkeep b (.inl (List.mem_filterMap.2 ⟨it, h, hb⟩))) rfl
        · rw [dom_append, List.append_assoc]
          refine List.nodup_append.2 ⟨by rw [← hd']; exact g1.nd', List.nodup_append.2 ⟨hndL'.2.1, hnd0.2.1, fun b hb c hc => hnd0.2.2 b (by rw [dom_append]; simp [hb]) c hc⟩, fun b hb c hc he => ?_⟩
          subst he
          exact hsep b hb (List.mem_append.1 hc)
        · rw [dom_append, List.append_assoc] at hb
          rcases List.mem_append.1 hb with hb | hb
          · exact g1.df b (by rw [List.append_nil, hd']; exact hb)
          · have hb' := List.mem_append.1 hb
            have h0 : G b = none := hw.df b (by rw [dom_append, List.append_assoc]; exact List.mem_append_right _ hb)
            cases hg : G2 b with
            | none => exact hg
            | some o =>
              rcases hst.gn b h0 (by show G2 b ≠ none; rw [hg]; simp) with h | h
              · have := hlt2 b hb'; omega
              · exact absurd h (hn1 b hb')
        · rw [hkeep b (.inr hb)]
          exact hw.d b hb
      · refine ⟨hst.os, hst.tape, hst.output, hst.size, fun b hb hn => hst.old b hb (fun hm => hn (by rw [dom_append]; simp [hm])), hst.gm, fun b h0 h1 => ?_, fun b hb => ?_, [], rfl, by simp⟩
        · rcases hst.gn b h0 h1 with h | h
          · exact .inl h
          · exact .inr (by rw [dom_append]; simp only [List.mem_append]; exact .inl h)
        · rw [dom_append] at hb ⊢
          rcases List.mem_append.1 hb with hb | hb
          · rcases hst.ln b (by rw [hd']; exact hb) with h | h
            · exact .inl (List.mem_append_left _ h)
            · exact .inr h
          · exact .inl (List.mem_append_right _ hb)
    rintro x a' w' ⟨β', e', h', r', s', st', q⟩
    cases x with
    | normal => exact fin a' w' β' e' h' r' s' st' q
    | ret => exact fin a' w' β' e' h' r' s' st' q
    | exit id => exact q.elim
    | goto l => exact q.elim
    | panic ch => exact q.elim
    | outgrown => exact q.elim
  exact callsIn_wide.1 hcall
end entry
end Go.Kx
