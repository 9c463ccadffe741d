/- The fourteenth text of the small logic: the forms of contracts; slices that stay as they are. No condition. -/
import Derived.Test.YtdiccicokbbcoaaKd
set_option linter.unusedSimpArgs false
set_option linter.unusedVariables false
namespace Go.Kx
open Go Go.RowKit

def Gle (G G' : Nat → Option Obj) : Prop := ∀ b o, G b = some o → G' b = some o
theorem Gle.refl (G : Nat → Option Obj) : Gle G G := fun _ _ h => h
theorem Gle.trans {A B C : Nat → Option Obj} (h1 : Gle A B) (h2 : Gle B C) : Gle A C := fun b o h => h2 b o (h1 b o h)

/-- A call that computes a value. -/
def FnS (P : Program) (f : FuncId) (args : Array Value) (G : Nat → Option Obj) (v : Value) : Prop :=
  ∀ L D, CallsH P f args ⟨G, L, D⟩ fun r h' => r = v ∧ h' = ⟨G, L, D⟩
/-- A call that computes a value of some kind. -/
def FnE (P : Program) (f : FuncId) (args : Array Value) (G : Nat → Option Obj) (R : Value → Prop) : Prop :=
  ∀ L D, CallsH P f args ⟨G, L, D⟩ fun r h' => R r ∧ h' = ⟨G, L, D⟩
/-- A call that makes memory which stays as it is. -/
def FnD (P : Program) (f : FuncId) (args : Array Value) (G : Nat → Option Obj) (R : (Nat → Option Obj) → Value → Prop) : Prop :=
  ∀ L D, CallsH P f args ⟨G, L, D⟩ fun r h' => ∃ G', h' = ⟨G', L, D⟩ ∧ Gle G G' ∧ R G' r
/-- A call that makes memory which is handed over. -/
def FnO (P : Program) (f : FuncId) (args : Array Value) (G : Nat → Option Obj) (L1 : List Item) (R : (Nat → Option Obj) → List Item → Value → Prop) : Prop :=
  ∀ L D, CallsH P f args ⟨G, L1 ++ L, D⟩ fun r h' => ∃ G' L', h' = ⟨G', L' ++ L, D⟩ ∧ Gle G G' ∧ R G' L' r

theorem sat_weaken {β G G' L L' D w} (hs : Sat β ⟨G', L', D⟩ w) (hg : Gle G G') (hL : L.Sublist L') : Sat β ⟨G, L, D⟩ w := by
  have hd : (dom β L ++ D).Sublist (dom β L' ++ D) := (hL.filterMap _).append (List.Sublist.refl _)
  refine ⟨fun b o h => hs.g b o (hg b o h), fun it h => hs.l it (hL.subset h), hd.nodup hs.nd, fun b hb => ?_, hs.d⟩
  have h0 := hs.df b (hd.subset hb)
  cases hgb : G b with
  | none => exact hgb
  | some o => have := hg b o hgb; dsimp only at h0; rw [h0] at this; cases this
theorem callsH_weaken {P f args G L D} {R : Value → H → Prop} {R' : Value → H → Prop} (hc : CallsH P f args ⟨G, L, D⟩ R)
    (hr : ∀ v h', R v h' → Gle G h'.G → ∃ G2 L2, Gle G2 h'.G ∧ Gle G G2 ∧ L2.Sublist h'.L ∧ R' v ⟨G2, L2, D⟩) : CallsH P f args ⟨G, L, D⟩ R' := by
  refine ⟨hc.1, fun β w hw => (hc.2 β w hw).mono ?_⟩
  rintro x w' ⟨v, h', rfl, ⟨hD, hR⟩, hs, st, hrr⟩
  obtain ⟨G', L', D'⟩ := h'
  dsimp only at hD
  subst hD
  obtain ⟨G2, L2, g1, g2, g3, g4⟩ := hr v _ hrr st.gm
  have hdm : (dom β L2).Sublist (dom β L') := g3.filterMap _
  refine ⟨v, ⟨G2, L2, D'⟩, rfl, ⟨rfl, fun s cs h => hR s cs (g3.subset h)⟩, sat_weaken hs g1 g3, ⟨st.os, st.tape, st.output, st.size, st.old, g2, fun b h0 h1 => st.gn b h0 ?_, fun b hb => st.ln b (hdm.subset hb), [], rfl, by simp⟩, g4⟩
  cases h2 : G2 b with
  | none => exact absurd h2 h1
  | some o => have h9 : G' b = some o := g1 b o h2; show G' b ≠ none; rw [h9]; simp

section forms
variable {P : Program} {f : FuncId} {fn : Func} {c : Code} {rs vs : List Nat} {s : SC} {rl : List RS} {args : Array Value} {G : Nat → Option Obj}
/-- What is known of a function: its code, read off. -/
structure Fun (P : Program) (f : FuncId) (N : Nat) (V : List Nat × List Nat) (s : SC) (rl : List RS) : Prop where
  ok : ∃ fn c, P.funcs[f]? = some fn ∧ fn.body = some c ∧ fn.ntmps = N ∧ slimC P N V.1 V.2 c = some s ∧ slimR P N V.1 V.2 fn.results.toList = some rl ∧ Enters P f
theorem Fun.mk' {V : List Nat × List Nat} {N : Nat} (hf : P.funcs[f]? = some fn) (hN : fn.ntmps = N) (hn : (fn.name == "runtime.NumGoroutine") = false) (hb : fn.body.isNone = false) (hs : slimC P fn.ntmps V.1 V.2 (fn.body.getD .skip) = some s) (hr : slimR P fn.ntmps V.1 V.2 fn.results.toList = some rl) : Fun P f N V s rl := by
  cases hc : fn.body with
  | none => rw [hc] at hb; cases hb
  | some c => exact ⟨fn, c, hf, hc, hN, by rw [← hN]; simpa [hc] using hs, by rw [← hN]; exact hr, enters_of hf hn hb⟩
theorem Fun.calls {N : Nat} {V : List Nat × List Nat} {L1 : List Item} {R : Value → H → Prop} (hf : Fun P f N V s rl) (ha : args.size ≤ N) (hL1 : NoRegs L1) (hb : wK none P N V.1 V.2 s (retQ rl R) (env0 args) ⟨G, L1, []⟩) (L2 : List Item) (D : List Nat) :
    CallsH P f args ⟨G, L1 ++ L2, D⟩ fun v h' => ∃ G' L', h' = ⟨G', L' ++ L2, D⟩ ∧ NoRegs L' ∧ R v ⟨G', L', []⟩ := by
  obtain ⟨fn, c, h1, h2, h3, h4, h5, h6⟩ := hf.ok
  subst h3
  exact callsH_of h1 h2 h6 h4 h5 ha hL1 hb L2 D
theorem noRegs_nil : NoRegs [] := fun _ _ h => by cases h
theorem Fun.fnE {N : Nat} {V : List Nat × List Nat} {R : Value → Prop} (hf : Fun P f N V s rl) (ha : args.size ≤ N) (hb : wK none P N V.1 V.2 s (retQ rl fun v _ => R v) (env0 args) ⟨G, [], []⟩) : FnE P f args G R := fun L D =>
  callsH_weaken (hf.calls ha noRegs_nil hb L D) fun v h' ⟨G', L', he, _, hr⟩ hg => ⟨G, L, hg, .refl G, by subst he; exact List.sublist_append_right _ _, hr, rfl⟩
theorem Fun.fnS {N : Nat} {V : List Nat × List Nat} {v0 : Value} (hf : Fun P f N V s rl) (ha : args.size ≤ N) (hb : wK none P N V.1 V.2 s (retQ rl fun v _ => v = v0) (env0 args) ⟨G, [], []⟩) : FnS P f args G v0 := hf.fnE ha hb
theorem Fun.fnD {N : Nat} {V : List Nat × List Nat} {R : (Nat → Option Obj) → Value → Prop} (hf : Fun P f N V s rl) (ha : args.size ≤ N) (hb : wK none P N V.1 V.2 s (retQ rl fun v h => R h.G v) (env0 args) ⟨G, [], []⟩) : FnD P f args G R := fun L D =>
  callsH_weaken (hf.calls ha noRegs_nil hb L D) fun v h' ⟨G', L', he, _, hr⟩ hg => ⟨G', L, by subst he; exact .refl _, by subst he; exact hg, by subst he; exact List.sublist_append_right _ _, G', rfl, by subst he; exact hg, hr⟩
theorem Fun.fnO {N : Nat} {V : List Nat × List Nat} {L1 : List Item} {R : (Nat → Option Obj) → List Item → Value → Prop} (hf : Fun P f N V s rl) (ha : args.size ≤ N) (hL1 : NoRegs L1) (hb : wK none P N V.1 V.2 s (retQ rl fun v h => R h.G h.L v) (env0 args) ⟨G, L1, []⟩) : FnO P f args G L1 R := fun L D =>
  callsH_weaken (hf.calls ha hL1 hb L D) fun v h' ⟨G', L', he, _, hr⟩ hg => ⟨G', L' ++ L, by subst he; exact .refl _, by subst he; exact hg, by subst he; exact .refl _, G', L', rfl, by subst he; exact hg, hr⟩
theorem retQ_v {e : Env} {h : H} {R : Value → H → Prop} {out : List Value} (hr : resV e h rl = some out) (hv : R (tupV out) ⟨h.G, [], []⟩) : retQ rl R .ret e h :=
  ⟨out, hr, ⟨h.G, [], []⟩, ghost_sub (List.nil_sublist _), noRegs_nil, hv⟩
end forms

/-! ### Slices that stay as they are -/
theorem add_of_add (a : Addr) (i j : Nat) : (a.add i).add j = a.add (i + j) := by
  unfold Addr.add
  by_cases hi : i = 0 <;> by_cases hj : j = 0 <;> simp [hi, hj, Nat.add_assoc]
theorem cellG_le {G G' : Nat → Option Obj} (h : Gle G G') {a : Addr} {v : Value} (hc : cellG G a = some v) : cellG G' a = some v := by
  unfold cellG at hc ⊢
  split at hc
  · rename_i hg
    rw [h _ _ hg]
    exact hc
  · cases hc
/-- Elements at an address. 'E': how an element's cells stand. -/
def SlA {α : Type} (G : Nat → Option Obj) (E : α → List Value → Prop) (sz : Nat) (A : Option Addr) (xs : List α) : Prop :=
  ∀ i x, xs[i]? = some x → ∃ a cs, A = some a ∧ cs.length = sz ∧ E x cs ∧ ∀ j u, cs[j]? = some u → cellG G (a.add (i * sz + j)) = some u
/-- A slice value that holds a list. -/
def SlV {α : Type} (G : Nat → Option Obj) (E : α → List Value → Prop) (sz : Nat) (v : Value) (xs : List α) : Prop :=
  ∃ A c, v = .slice A xs.length c ∧ xs.length ≤ c ∧ c ≤ maxLen ∧ SlA G E sz A xs
section slices
variable {α : Type} {G G' : Nat → Option Obj} {E E' : α → List Value → Prop} {sz : Nat} {A : Option Addr} {xs : List α} {v : Value}
theorem SlA.le (h : SlA G E sz A xs) (hg : Gle G G') (hE : ∀ x cs, E x cs → E' x cs) : SlA G' E' sz A xs := fun i x hx => by
  obtain ⟨a, cs, h1, h2, h3, h4⟩ := h i x hx
  exact ⟨a, cs, h1, h2, hE _ _ h3, fun j u hu => cellG_le hg (h4 j u hu)⟩
theorem SlV.le (h : SlV G E sz v xs) (hg : Gle G G') (hE : ∀ x cs, E x cs → E' x cs) : SlV G' E' sz v xs := by
  obtain ⟨A, c, h1, h2, h3, h4⟩ := h
  exact ⟨A, c, h1, h2, h3, h4.le hg hE⟩
theorem SlV.nil : SlV G E sz (.slice none 0 0) [] := ⟨none, 0, rfl, Nat.le_refl _, Nat.zero_le _, fun i x hx => by simp at hx⟩
/-- An element, loaded whole or in part. -/
theorem SlA.at_ (h : SlA G E sz A xs) {k : Nat} {x : α} (hx : xs[k]? = some x) (L : List Item) (D : List Nat) :
    ∃ a cs, A = some a ∧ E x cs ∧ cs.length = sz ∧ LdN ⟨G, L, D⟩ (.pointer (some (a.add (k * sz)))) (some sz) (.agg cs.toArray) ∧ ∀ o u, cs[o]? = some u → LdN ⟨G, L, D⟩ (.pointer (some ((a.add (k * sz)).add o))) none u := by
  obtain ⟨a, cs, h1, h2, h3, h4⟩ := h k x hx
  exact ⟨a, cs, h1, h3, h2, ⟨_, cs, rfl, rfl, h2, fun j u hu => by rw [add_of_add]; exact .g (h4 j u hu)⟩, fun o u hu => ⟨_, rfl, by rw [add_of_add]; exact .g (h4 o u hu)⟩⟩
/-- Elements of one cell. -/
theorem SlA.at1 (h : SlA G E 1 A xs) {k : Nat} {x : α} (hx : xs[k]? = some x) (L : List Item) (D : List Nat) :
    ∃ a u, A = some a ∧ E x [u] ∧ LdN ⟨G, L, D⟩ (.pointer (some (a.add (k * 1)))) none u := by
  obtain ⟨a, cs, h1, h2, h3, h4⟩ := h k x hx
  match cs, h2 with
  | [u], _ => exact ⟨a, u, h1, h3, _, rfl, .g (by simpa using h4 0 u rfl)⟩
/-- Part of a slice. -/
theorem SlA.cut (h : SlA G E sz A xs) {l n : Nat} {B : Option Addr} (hn : n ≤ xs.length) (hB : l < n → B = A.map (·.add (l * sz))) : SlA G E sz B ((xs.take n).drop l) := fun i x hx => by
  rw [List.getElem?_drop, List.getElem?_take] at hx
  split at hx
  · rename_i hlt
    obtain ⟨a, cs, h1, h2, h3, h4⟩ := h (l + i) x hx
    refine ⟨a.add (l * sz), cs, by rw [hB (by omega), h1]; rfl, h2, h3, fun j u hu => ?_⟩
    rw [add_of_add, ← Nat.add_assoc, ← Nat.add_mul]
    exact h4 j u hu
  · cases hx
end slices

/-- The numbers that an int is. -/
def I64 (n : Int) : Prop := -9223372036854775808 ≤ n ∧ n ≤ 9223372036854775807
theorem w64_id {n : Int} (h : -9223372036854775808 ≤ n ∧ n ≤ 9223372036854775807) : IntKind.i64.wrap n = n := IntWalk.i64_in n h
theorem w64_I64 (n : Int) : I64 (IntKind.i64.wrap n) := by
  unfold I64
  rw [IntKind.wrap_i64]
  omega
end Go.Kx
