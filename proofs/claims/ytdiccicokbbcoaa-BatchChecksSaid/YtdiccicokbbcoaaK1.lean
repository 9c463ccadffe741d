/- A small logic over the walks of the library: the heap is split into what stays as it is, and what the running function owns. No condition. -/
import Derived.RangeFuncLeaves
import Derived.OrdersIn
import Derived.Deep.Quiet
import Derived.WalkKit
set_option linter.unusedSimpArgs false
set_option linter.unusedVariables false
namespace Go.Kx
open Go Go.RowKit

/-- The slots of a frame, as a function. -/
abbrev Env := Nat → Value
def Env.set (e : Env) (d : Nat) (v : Value) : Env := fun i => if i = d then v else e i

/-- What a running function owns: a local variable that lies in memory (by its slot), a block, a slice that it made. -/
inductive Item where
  | reg (s : Nat) (cs : List Value)
  | blk (b : Nat) (cs : List Value)
  | row (v : Value) (e : TypeId) (sz n : Nat) (xs : List Value)
  | obj (b : Nat) (o : Obj)

/-- What is known of the heap: 'G': blocks that nobody writes any more; 'L': what is owned; 'D': blocks for deferred calls. -/
structure H where
  G : Nat → Option Obj
  L : List Item
  D : List Nat

def rowBlock : Value → Option Nat
  | .slice (some a) _ c => if c = 0 then none else some a.block
  | _ => none
/-- A slice that the function made: it holds the cells xs; an empty one may be any. -/
def rowOk (w : World) (v : Value) (e : TypeId) (sz n : Nat) (xs : List Value) : Prop :=
  xs.length = n * sz ∧ ((∃ A, v = .slice A 0 0 ∧ n = 0) ∨
    ∃ g cap cur, v = .slice (some ⟨g, 0, none⟩) n cap ∧ 0 < cap ∧ w.heap[g]? = some (.cells cur e (0, 0)) ∧ n ≤ cap ∧ cap ≤ maxLen ∧ cur.size = cap * sz ∧ cur.toList.take (n * sz) = xs)
def Item.block (β : Nat → Nat) : Item → Option Nat
  | .reg s _ => some (β s)
  | .blk b _ => some b
  | .row v _ _ _ _ => rowBlock v
  | .obj b _ => some b
def Item.ok (β : Nat → Nat) (w : World) : Item → Prop
  | .reg s cs => ∃ t, w.heap[β s]? = some (.cells cs.toArray t (0, 0))
  | .blk b cs => ∃ t, w.heap[b]? = some (.cells cs.toArray t (0, 0))
  | .row v e sz n xs => rowOk w v e sz n xs
  | .obj b o => w.heap[b]? = some o
def dom (β : Nat → Nat) (L : List Item) : List Nat := L.filterMap (Item.block β)

structure Sat (β : Nat → Nat) (h : H) (w : World) : Prop where
  g : ∀ b o, h.G b = some o → w.heap[b]? = some o
  l : ∀ it ∈ h.L, it.ok β w
  nd : (dom β h.L ++ h.D).Nodup
  df : ∀ b ∈ dom β h.L ++ h.D, h.G b = none
  d : ∀ b ∈ h.D, w.heap[b]? = some (.deferred (some []))

structure Step (β : Nat → Nat) (h : H) (w : World) (β' : Nat → Nat) (h' : H) (w' : World) : Prop where
  os : w'.os = w.os
  tape : w'.tape = w.tape
  output : w'.output = w.output
  size : w.heap.size ≤ w'.heap.size
  old : ∀ b, b < w.heap.size → b ∉ dom β h.L → w'.heap[b]? = w.heap[b]?
  gm : ∀ b o, h.G b = some o → h'.G b = some o
  gn : ∀ b, h.G b = none → h'.G b ≠ none → w.heap.size ≤ b ∨ b ∈ dom β h.L
  ln : ∀ b ∈ dom β' h'.L, b ∈ dom β h.L ∨ w.heap.size ≤ b
  dn : ∃ l, h'.D = l ++ h.D ∧ ∀ b ∈ l, w.heap.size ≤ b

theorem Step.refl (β : Nat → Nat) (h : H) (w : World) : Step β h w β h w :=
  ⟨rfl, rfl, rfl, Nat.le_refl _, fun _ _ _ => rfl, fun _ _ h => h, fun _ h h' => absurd h h', fun _ h => .inl h, [], rfl, by simp⟩

theorem Step.trans {β h w β1 h1 w1 β2 h2 w2} (s : Step β h w β1 h1 w1) (t : Step β1 h1 w1 β2 h2 w2) : Step β h w β2 h2 w2 where
  os := t.os.trans s.os
  tape := t.tape.trans s.tape
  output := t.output.trans s.output
  size := Nat.le_trans s.size t.size
  old b hb hn := (t.old b (Nat.lt_of_lt_of_le hb s.size) (fun hm => by rcases s.ln b hm with h | h; exact hn h; omega)).trans (s.old b hb hn)
  gm b o ho := t.gm b o (s.gm b o ho)
  gn b h0 h2 := by
    have := s.size
    cases h1b : h1.G b with
    | none => rcases t.gn b h1b h2 with h | h
              · left; omega
              · exact (s.ln b h).symm
    | some o => exact s.gn b h0 (by rw [h1b]; simp)
  ln b hb := by
    have := s.size
    rcases t.ln b hb with h | h
    · exact s.ln b h
    · right; omega
  dn := by
    obtain ⟨l, h1, h2⟩ := s.dn
    obtain ⟨l', h1', h2'⟩ := t.dn
    refine ⟨l' ++ l, by rw [h1', h1, List.append_assoc], fun b hb => ?_⟩
    have := s.size
    rcases List.mem_append.1 hb with h | h
    · have := h2' b h; omega
    · exact h2 b h

theorem Item.ok_lt {β : Nat → Nat} {w : World} {it : Item} (h : it.ok β w) {b : Nat} (hb : it.block β = some b) : b < w.heap.size := by
  cases it with
  | reg s cs => obtain ⟨t, ht⟩ := h; simp [Item.block] at hb; subst hb; exact (Array.getElem?_eq_some_iff.1 ht).1
  | blk b' cs => obtain ⟨t, ht⟩ := h; simp [Item.block] at hb; subst hb; exact (Array.getElem?_eq_some_iff.1 ht).1
  | obj b' o => simp [Item.block] at hb; subst hb; exact (Array.getElem?_eq_some_iff.1 h).1
  | row v e sz n xs =>
    rcases h.2 with ⟨A, rfl, _⟩ | ⟨g, cap, cur, rfl, hc, hg, _⟩
    · cases A <;> simp [Item.block, rowBlock] at hb
    · have hc' : ¬ cap = 0 := by omega
      simp [Item.block, rowBlock, hc'] at hb
      subst hb
      exact (Array.getElem?_eq_some_iff.1 hg).1

theorem Sat.dom_lt {β h w} (s : Sat β h w) {b : Nat} (hb : b ∈ dom β h.L) : b < w.heap.size := by
  obtain ⟨it, hit, hb⟩ := List.mem_filterMap.1 hb
  exact Item.ok_lt (s.l it hit) hb
theorem Sat.d_lt {β h w} (s : Sat β h w) {b : Nat} (hb : b ∈ h.D) : b < w.heap.size := (Array.getElem?_eq_some_iff.1 (s.d b hb)).1
theorem Sat.g_lt {β h w} (s : Sat β h w) {b : Nat} {o : Obj} (hb : h.G b = some o) : b < w.heap.size := (Array.getElem?_eq_some_iff.1 (s.g b o hb)).1

/-- An item holds in another world where its block is as it was. -/
theorem Item.ok_of {β β' : Nat → Nat} {w w' : World} {it : Item} (h : it.ok β w) (hb : ∀ b, it.block β = some b → w'.heap[b]? = w.heap[b]?) (hβ : it.block β' = it.block β) : it.ok β' w' := by
  cases it with
  | reg s cs => obtain ⟨t, ht⟩ := h; simp [Item.block] at hb hβ; exact ⟨t, by rw [hβ, hb]; exact ht⟩
  | blk b' cs => obtain ⟨t, ht⟩ := h; simp [Item.block] at hb; exact ⟨t, by rw [hb]; exact ht⟩
  | obj b' o => simp [Item.block] at hb; show w'.heap[b']? = some o; rw [hb]; exact h
  | row v e sz n xs =>
    refine ⟨h.1, ?_⟩
    rcases h.2 with hn | ⟨g, cap, cur, rfl, hc, hgg, rest⟩
    · exact .inl hn
    · have hc' : ¬ cap = 0 := by omega
      exact .inr ⟨g, cap, cur, rfl, hc, by rw [hb g (by simp [Item.block, rowBlock, hc'])]; exact hgg, rest⟩

/-- Every function may be called; in a round of a loop over a function, or not. -/
def Fr (r : Option Nat) : Fence := { Fence.wide with round := r }
/-- How a frame is seen. 'vs': slots that hold addresses of local variables and are not seen as values. -/
structure Rel (r : Option Nat) (N : Nat) (rs vs : List Nat) (β : Nat → Nat) (a : Act) (e : Env) (h : H) : Prop where
  size : a.tmps.size = N
  env : ∀ i, i < N → i ∉ vs → a.tmps.getD i undef = e i
  reg : ∀ s cs, Item.reg s cs ∈ h.L → (s ∈ rs ∧ s ∈ vs) ∧ s < N ∧ a.tmps.getD s undef = .pointer (some ⟨β s, 0, none⟩)
  dfr : a.defers = if r.isSome then [] else h.D.map (fun b => { target := .collected b, args := #[] })

def PostH (r : Option Nat) (N : Nat) (rs vs : List Nat) (β : Nat → Nat) (h : H) (w : World) (Q : Exit → Env → H → Prop) : Exit → Act → World → Prop :=
  fun x a' w' => ∃ β' e' h', Rel r N rs vs β' a' e' h' ∧ Sat β' h' w' ∧ Step β h w β' h' w' ∧ Q x e' h'

/-- Code, walked in this logic. -/
def wpH (r : Option Nat) (P : Program) (N : Nat) (rs vs : List Nat) (c : Code) (Q : Exit → Env → H → Prop) (e : Env) (h : H) : Prop :=
  ∀ β a w, Rel r N rs vs β a e h → Sat β h w → c.wpIn (Fr r) 0 P (PostH r N rs vs β h w Q) a w

def thenH (K : Env → H → Prop) (Q : Exit → Env → H → Prop) : Exit → Env → H → Prop
  | .normal, e, h => K e h
  | x, e, h => Q x e h
def blkH (id : Nat) (Q : Exit → Env → H → Prop) : Exit → Env → H → Prop
  | .exit id', e, h => if id' = id then Q .normal e h else Q (.exit id') e h
  | x, e, h => Q x e h

section control
variable {r : Option Nat} {P : Program} {N : Nat} {rs vs : List Nat} {Q : Exit → Env → H → Prop} {e : Env} {h : H}

theorem wpH_mono {c : Code} {Q' : Exit → Env → H → Prop} (hc : wpH r P N rs vs c Q e h) (hq : ∀ x e h, Q x e h → Q' x e h) : wpH r P N rs vs c Q' e h :=
  fun β a w hr hs => wpIn_mono (hc β a w hr hs) fun _ _ _ ⟨β', e', h', rr, s, st, q⟩ => ⟨β', e', h', rr, s, st, hq _ _ _ q⟩
theorem wpH_skip (hq : Q .normal e h) : wpH r P N rs vs .skip Q e h := fun β _ _ hr hs => wpIn_skip ⟨β, e, h, hr, hs, .refl _ _ _, hq⟩
theorem wpH_label {l : Nat} (hq : Q .normal e h) : wpH r P N rs vs (.label l) Q e h := fun β _ _ hr hs => wpIn_label ⟨β, e, h, hr, hs, .refl _ _ _, hq⟩
theorem wpH_exit {id : Nat} (hq : Q (.exit id) e h) : wpH r P N rs vs (.exit id) Q e h := fun β _ _ hr hs => wpIn_exit ⟨β, e, h, hr, hs, .refl _ _ _, hq⟩
theorem wpH_ret (hq : Q .ret e h) : wpH r P N rs vs .ret Q e h := fun β _ _ hr hs => wpIn_ret ⟨β, e, h, hr, hs, .refl _ _ _, hq⟩
theorem wpH_seq {x y : Code} (hx : wpH r P N rs vs x (thenH (wpH r P N rs vs y Q) Q) e h) : wpH r P N rs vs (.seq x y) Q e h := by
  intro β a w hr hs
  refine wpIn_seq (wpIn_mono (hx β a w hr hs) ?_)
  rintro ex a' w' ⟨β', e', h', rr, s, st, q⟩
  cases ex with
  | normal =>
    refine wpIn_mono (q β' a' w' rr s) ?_
    rintro ex2 a2 w2 ⟨β2, e2, h2, r2, s2, st2, q2⟩
    exact ⟨β2, e2, h2, r2, s2, st.trans st2, q2⟩
  | _ => exact ⟨β', e', h', rr, s, st, q⟩
theorem wpH_seq_k {x y : Code} (hx : ∀ K : Env → H → Prop, (∀ e h, wpH r P N rs vs y Q e h → K e h) → wpH r P N rs vs x (thenH K Q) e h) : wpH r P N rs vs (.seq x y) Q e h :=
  wpH_seq (hx _ fun _ _ h => h)
theorem wpH_block {id : Nat} {c : Code} (hc : wpH r P N rs vs c (blkH id Q) e h) : wpH r P N rs vs (.block id c) Q e h := by
  intro β a w hr hs
  refine wpIn_block (wpIn_mono (hc β a w hr hs) ?_)
  rintro ex a' w' ⟨β', e', h', rr, s, st, q⟩
  cases ex with
  | exit id' =>
    simp only [blkH] at q
    simp only [Exit.inBlock]
    split at q
    · rename_i hid; rw [if_pos hid]; exact ⟨β', e', h', rr, s, st, q⟩
    · rename_i hid; rw [if_neg hid]; exact ⟨β', e', h', rr, s, st, q⟩
  | _ => exact ⟨β', e', h', rr, s, st, q⟩

theorem exists_min (p : Nat → Prop) (hp : ∃ n, p n) : ∃ n, p n ∧ ∀ m, m < n → ¬ p m := by
  obtain ⟨n, hn⟩ := hp
  induction n using Nat.strongRecOn with
  | _ n ih =>
    by_cases hx : ∃ m, m < n ∧ p m
    · obtain ⟨m, hm, hpm⟩ := hx; exact ih m hm hpm
    · exact ⟨n, hn, fun m hm hpm => hx ⟨m, hm, hpm⟩⟩

theorem wpH_loop {c : Code} (I : Env → H → Prop) (μ : Env → H → Nat) (h0 : I e h)
    (round : ∀ e h, I e h → wpH r P N rs vs c (thenH (fun e' h' => I e' h' ∧ μ e' h' < μ e h) Q) e h) : wpH r P N rs vs (.loop c) Q e h := by
  intro β a w hr hs
  let J : Nat → Act → World → Prop := fun n a' w' => ∃ β' e' h', Rel r N rs vs β' a' e' h' ∧ Sat β' h' w' ∧ Step β h w β' h' w' ∧ I e' h' ∧ μ e' h' = n
  let m : Act → World → Nat := fun a' w' => open Classical in if hx : ∃ n, J n a' w' then Classical.choose (exists_min _ hx) else 0
  have hm : ∀ a' w' n, J n a' w' → J (m a' w') a' w' ∧ m a' w' ≤ n := by
    intro a' w' n hj
    have hx : ∃ n, J n a' w' := ⟨n, hj⟩
    have hc := Classical.choose_spec (exists_min _ hx)
    have he : m a' w' = Classical.choose (exists_min _ hx) := by simp only [m]; rw [dif_pos hx]
    rw [he]
    refine ⟨hc.1, ?_⟩
    rcases Nat.lt_or_ge n (Classical.choose (exists_min _ hx)) with hl | hl
    · exact absurd hj (hc.2 n hl)
    · exact hl
  refine wpIn_loop (fun a' w' => ∃ n, J n a' w') m ⟨_, β, e, h, hr, hs, .refl _ _ _, h0, rfl⟩ ?_
  rintro a' w' ⟨n, hj⟩
  obtain ⟨⟨β', e', h', rr, s, st, hi, hn⟩, _⟩ := hm a' w' n hj
  refine wpIn_mono (round e' h' hi β' a' w' rr s) ?_
  rintro ex a2 w2 ⟨β2, e2, h2, r2, s2, st2, q2⟩
  cases ex with
  | normal =>
    have hj2 : J (μ e2 h2) a2 w2 := ⟨β2, e2, h2, r2, s2, st.trans st2, q2.1, rfl⟩
    exact ⟨⟨_, hj2⟩, Nat.lt_of_le_of_lt (hm _ _ _ hj2).2 (by rw [← hn]; exact q2.2)⟩
  | _ => exact ⟨β2, e2, h2, r2, s2, st.trans st2, q2⟩
end control

/-- How an operand is seen. -/
inductive O where
  | t (n : Nat)
  | i (n : Int)
  | b (x : Bool)
  | v (x : Value)
def ev (e : Env) : O → Value
  | .t n => e n
  | .i n => .int .i64 n
  | .b x => .bool x
  | .v x => x
def slO (vs : List Nat) (N : Nat) : Operand → Option O
  | .tmp n => if n < N ∧ vs.contains n = false then some (.t n) else none
  | .const (.int .i64 n) => some (.i n)
  | .const (.bool x) => some (.b x)
  | .const x => some (.v x)
  | .global g => some (.v (.pointer (some ⟨g, 0, none⟩)))
  | .func f => some (.v (.func (.func f) #[] #[]))
theorem slO_ev {ro N rs vs β a e h x y} (r : Rel ro N rs vs β a e h) (hx : slO vs N x = some y) : a.eval x = ev e y := by
  unfold slO at hx
  split at hx
  · split at hx
    · rename_i n hn
      cases hx
      exact r.env n hn.1 (by simpa using hn.2)
    · cases hx
  all_goals (cases hx; rfl)

theorem wpH_cond {r P N rs vs Q e h} {c : Operand} {y : O} {t : Bool} {x z : Code} (hc : slO vs N c = some y) (ht : ev e y = .bool t) (hx : wpH r P N rs vs (if t then x else z) Q e h) : wpH r P N rs vs (.cond c x z) Q e h :=
  fun β a w hr hs => wpIn_cond (by rw [slO_ev hr hc, ht]) (hx β a w hr hs)

/-! ### Calls -/
def Enters (P : Program) (f : FuncId) : Prop := ∀ args w, (callFunc f args).run P w = .ok (.enter f args) w
theorem enters_of {P : Program} {f : FuncId} {fn : Func} (hf : P.funcs[f]? = some fn) (hn : (fn.name == "runtime.NumGoroutine") = false) (hb : fn.body.isNone = false) : Enters P f := by
  intro args w
  have hn' : ¬ fn.name = "runtime.NumGoroutine" := by simpa using hn
  have hb' : ¬ fn.body = none := by intro h; rw [h] at hb; cases hb
  simp [callFunc, program, Sem.run, hf, hn', hb', bind, Sem.bind, pure]

/-- No other local variables lie in what is owned. -/
def RegSub (h' h : H) : Prop := ∀ s cs, Item.reg s cs ∈ h'.L → ∃ cs', Item.reg s cs' ∈ h.L
theorem RegSub.refl (h : H) : RegSub h h := fun _ cs hs => ⟨cs, hs⟩
theorem RegSub.trans {a b c : H} (h1 : RegSub b a) (h2 : RegSub c b) : RegSub c a := fun s cs hs => by obtain ⟨cs', h⟩ := h2 s cs hs; exact h1 s cs' h
/-- A call, in this logic. -/
def CallsH (P : Program) (f : FuncId) (args : Array Value) (h : H) (R : Value → H → Prop) : Prop :=
  Enters P f ∧ ∀ β w, Sat β h w → Calls P f args w fun x w' => ∃ v h', x = .returned v ∧ (h'.D = h.D ∧ RegSub h' h) ∧ Sat β h' w' ∧ Step β h w β h' w' ∧ R v h'
theorem CallsH.mono {P f args h} {R R' : Value → H → Prop} (hc : CallsH P f args h R) (hr : ∀ v h', R v h' → R' v h') : CallsH P f args h R' :=
  ⟨hc.1, fun β w hs => (hc.2 β w hs).mono fun _ _ ⟨v, h', a, b, c, d, r⟩ => ⟨v, h', a, b, c, d, hr _ _ r⟩⟩
end Go.Kx
