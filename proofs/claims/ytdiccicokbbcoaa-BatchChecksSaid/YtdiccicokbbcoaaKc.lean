/- The twelfth text of the small logic: code with its types resolved; a function's contract out of its body's walk. No condition. -/
import Derived.Test.YtdiccicokbbcoaaKq
import Derived.Scope
set_option linter.unusedSimpArgs false
set_option linter.unusedVariables false
namespace Go.Kx
open Go Go.RowKit

/-- Code, its operations read off the program. -/
inductive SC where
  | skip
  | reg (draw : Bool) (l : List SI)
  | rgT (l1 l2 : List SI)
  | rgX (l : List (Bool × SI))
  | rgY (l : List (Bool × SI)) (l2 : List SI)
  | rgZ (t : RX)
  | dead
  | seq (x y : SC)
  | cond (c : O) (x y : SC)
  | blk (id : Nat) (x : SC)
  | loop (x : SC)
  | exit (id : Nat)
  | lab (l : Nat)
  | ret
  | rf (g : O) (ps : List Nat) (x y : SC)
  | scp (x : SC)

def quietS : SOp → Bool
  | .bl0 _ | .alR _ _ | .bxR _ _ | .stR _ _ _ _ | .al _ _ | .bx _ _ | .st _ _ _ | .bls _ _ _ _ _ _ | .app _ _ _ _ _ _ => false
  | _ => true
/-- Where the end of a region begins whose order is open else. -/
def tailN (ops : Array Oper) : Option Nat := [ops.size - 1, ops.size - 2, ops.size - 3].find? fun n => Region.lexTailB .any ops n
theorem tailN_ok {ops : Array Oper} {n : Nat} (h : tailN ops = some n) : Region.lexTailB .any ops n = true := by
  have := List.find?_some h
  simpa using this
def tailQ (cl : Bool) (ops : Array Oper) (l : List SI) : Option Nat := (tailN ops).bind fun n => if ((l.take n).all fun x => quietS x.s && (cl || notCall x.s)) = true then some n else none
theorem tailQ_ok {cl : Bool} {ops : Array Oper} {l : List SI} {n : Nat} (h : tailQ cl ops l = some n) : Region.lexTailB .any ops n = true := by
  simp only [tailQ, Option.bind_eq_some_iff] at h
  obtain ⟨m, hm, h⟩ := h
  split at h
  · cases h; exact tailN_ok hm
  · cases h
def schedOf (ops : Array Oper) (l : List SI) : List (Bool × Nat) :=
  schedGo ops (fun i => match l[i]? with | some x => quietS x.s && notCall x.s | none => false) ops.size (Array.replicate ops.size false) []
/-- What is asked of a region whose order is open and that holds calls that make memory. -/
def XOk (P : Program) (N : Nat) (rs vs : List Nat) (ops : Array Oper) (l' : List (Bool × SI)) : Prop :=
  ∃ σ ol sl, Region.noSelect ops = true ∧ ops.all (dstOk rs) = true ∧ schedB .any ops σ (Array.replicate ops.size false) = true ∧ σ.length = ops.size ∧ schedOps ops σ = some ol ∧ slimL P N rs vs ops ol [] = some sl ∧ (((σ.map (·.1)).zip sl).all fun p => !p.1 || notCall p.2.s) = true ∧ l' = (σ.map (·.1)).zip sl
def slimX2 (P : Program) (N : Nat) (rs vs : List Nat) (ops : Array Oper) (σ : List (Bool × Nat)) : Option (List (Bool × SI)) :=
  if Region.noSelect ops = true ∧ ops.all (dstOk rs) = true ∧ schedB .any ops σ (Array.replicate ops.size false) = true ∧ σ.length = ops.size then
    (schedOps ops σ).bind fun ol => (slimL P N rs vs ops ol []).bind fun sl => if (((σ.map (·.1)).zip sl).all fun p => !p.1 || notCall p.2.s) = true then some ((σ.map (·.1)).zip sl) else none
  else none
theorem slimX2_ok {P : Program} {N : Nat} {rs vs : List Nat} {ops : Array Oper} {σ : List (Bool × Nat)} {l' : List (Bool × SI)} (h : slimX2 P N rs vs ops σ = some l') : XOk P N rs vs ops l' := by
  unfold slimX2 at h
  split at h
  · rename_i hc
    simp only [Option.bind_eq_some_iff] at h
    obtain ⟨ol, h1, sl, h2, h⟩ := h
    split at h
    · rename_i h3
      cases h
      exact ⟨σ, ol, sl, hc.1, hc.2.1, hc.2.2.1, hc.2.2.2, h1, h2, h3, rfl⟩
    · cases h
  · cases h
def isSt : SOp → Bool
  | .st _ _ _ | .stR _ _ _ _ => true
  | _ => false
def schedGoN (ops : Array Oper) (tk : Nat → Bool) (n : Nat) : Nat → Array Bool → List (Bool × Nat) → List (Bool × Nat)
  | 0, _, acc => acc.reverse
  | f + 1, listed, acc =>
    match (Region.ready .any ops listed).filter (· < n) with
    | [] => acc.reverse
    | i :: is =>
      match (i :: is).find? fun j => tk j && Region.free .any ops listed j with
      | some j => schedGoN ops tk n f (listed.setIfInBounds j true) ((true, j) :: acc)
      | none => schedGoN ops tk n f (listed.setIfInBounds i true) ((false, i) :: acc)
/-- The same with an end whose order is forced. -/
def YOk (P : Program) (N : Nat) (rs vs : List Nat) (ops : Array Oper) (l1 : List (Bool × SI)) (l2 : List SI) : Prop :=
  ∃ n σ ol sl, (Region.noSelect ops = true ∧ ops.all (dstOk rs) = true) ∧ (Region.sinkB .any ops n = true ∧ Region.chainB .any ops n = true ∧ n < ops.size) ∧ schedYB .any ops n σ (Array.replicate ops.size false) = true ∧ σ.length = n ∧ schedOps ops σ = some ol ∧ slimL P N rs vs ops (ol ++ ops.toList.drop n) [] = some sl ∧ (((σ.map (·.1)).zip sl).all fun p => !p.1 || notCall p.2.s) = true ∧ l1 = (σ.map (·.1)).zip sl ∧ l2 = sl.drop n
def slimY1 (P : Program) (N : Nat) (rs vs : List Nat) (ops : Array Oper) (n : Nat) (σ : List (Bool × Nat)) : Option (List (Bool × SI) × List SI) :=
  if (Region.noSelect ops = true ∧ ops.all (dstOk rs) = true) ∧ (Region.sinkB .any ops n = true ∧ Region.chainB .any ops n = true ∧ n < ops.size) ∧ schedYB .any ops n σ (Array.replicate ops.size false) = true ∧ σ.length = n then
    (schedOps ops σ).bind fun ol => (slimL P N rs vs ops (ol ++ ops.toList.drop n) []).bind fun sl => if (((σ.map (·.1)).zip sl).all fun p => !p.1 || notCall p.2.s) = true ∧ (((σ.map (·.1)).zip sl).all fun p => !isSt p.2.s) = true then some ((σ.map (·.1)).zip sl, sl.drop n) else none
  else none
theorem slimY1_ok {P : Program} {N : Nat} {rs vs : List Nat} {ops : Array Oper} {n : Nat} {σ : List (Bool × Nat)} {p : List (Bool × SI) × List SI} (h : slimY1 P N rs vs ops n σ = some p) : YOk P N rs vs ops p.1 p.2 := by
  unfold slimY1 at h
  split at h
  · rename_i hc
    simp only [Option.bind_eq_some_iff] at h
    obtain ⟨ol, h1, sl, h2, h⟩ := h
    split at h
    · rename_i h3
      cases h
      exact ⟨n, σ, ol, sl, hc.1, hc.2.1, hc.2.2.1, hc.2.2.2, h1, h2, h3.1, rfl, rfl⟩
    · cases h
  · cases h
def slimY (P : Program) (N : Nat) (rs vs : List Nat) (ops : Array Oper) (l : List SI) : Option (List (Bool × SI) × List SI) :=
  if (l.any fun x => isSt x.s) = true then
    [ops.size - 1, ops.size - 2, ops.size - 3, ops.size - 4].findSome? fun n => slimY1 P N rs vs ops n (schedGoN ops (fun i => match l[i]? with | some x => quietS x.s && notCall x.s | none => false) n n (Array.replicate ops.size false) [])
  else none
theorem slimY_ok {P : Program} {N : Nat} {rs vs : List Nat} {ops : Array Oper} {l : List SI} {p : List (Bool × SI) × List SI} (h : slimY P N rs vs ops l = some p) : YOk P N rs vs ops p.1 p.2 := by
  unfold slimY at h
  split at h
  · obtain ⟨n, _, hn⟩ := List.exists_of_findSome?_eq_some h
    exact slimY1_ok hn
  · cases h
/-- What is asked of a region whose order forks. -/
def ZOk (P : Program) (N : Nat) (rs vs : List Nat) (ops : Array Oper) (t : RX) : Prop :=
  ∃ σ, Region.noSelect ops = true ∧ ops.all (dstOk rs) = true ∧ schTB .any ops σ (Array.replicate ops.size false) = true ∧ σ.len = ops.size ∧ slimZ P N rs vs ops σ [] = some t
def schOf (ops : Array Oper) (l : List SI) : Sch :=
  schGo ops (fun i => match l[i]? with | some x => quietS x.s && notCall x.s | none => false) ops.size (Array.replicate ops.size false) []
def slimZ1 (P : Program) (N : Nat) (rs vs : List Nat) (ops : Array Oper) (l : List SI) : Option RX :=
  if Region.noSelect ops = true ∧ ops.all (dstOk rs) = true ∧ schTB .any ops (schOf ops l) (Array.replicate ops.size false) = true ∧ (schOf ops l).len = ops.size then slimZ P N rs vs ops (schOf ops l) [] else none
theorem slimZ1_ok {P : Program} {N : Nat} {rs vs : List Nat} {ops : Array Oper} {l : List SI} {t : RX} (h : slimZ1 P N rs vs ops l = some t) : ZOk P N rs vs ops t := by
  unfold slimZ1 at h
  split at h
  · rename_i hc
    exact ⟨_, hc.1, hc.2.1, hc.2.2.1, hc.2.2.2, h⟩
  · cases h
def slimX0 (P : Program) (N : Nat) (rs vs : List Nat) (ops : Array Oper) (l : List SI) : Option SC :=
  if P.follows .mixedOrders = true ∧ noDefer ops = true then
    if Region.lexB .any ops = true ∧ (l.all fun x => quietS x.s) = true ∧ (l.all fun x => notCall x.s) = true then some (.reg true l) else
    match tailQ false ops l with
    | some n => some (.rgT (l.take n) (l.drop n))
    | none => match slimY P N rs vs ops l with
     | some p => some (.rgY p.1 p.2)
     | none => match slimX2 P N rs vs ops (schedOf ops l) with
      | some l' => some (.rgX l')
      | none => if Region.lexB .any ops = true ∧ (l.all fun x => quietS x.s) = true then some (.reg true l) else (tailQ true ops l).map fun n => .rgT (l.take n) (l.drop n)
  else none
theorem slimX0_inv {P : Program} {N : Nat} {rs vs : List Nat} {ops : Array Oper} {l : List SI} {s : SC} (h : slimX0 P N rs vs ops l = some s) :
    (P.follows .mixedOrders = true ∧ noDefer ops = true) ∧ ((s = .reg true l ∧ Region.lexB .any ops = true) ∨ (∃ n, s = .rgT (l.take n) (l.drop n) ∧ Region.lexTailB .any ops n = true) ∨ (∃ l', s = .rgX l' ∧ XOk P N rs vs ops l') ∨ ∃ l1 l2, s = .rgY l1 l2 ∧ YOk P N rs vs ops l1 l2) := by
  unfold slimX0 at h
  split at h
  · rename_i hc
    refine ⟨hc, ?_⟩
    split at h
    · rename_i h1; cases h; exact .inl ⟨rfl, h1.1⟩
    · split at h
      · rename_i n hn; cases h; exact .inr (.inl ⟨n, rfl, tailQ_ok hn⟩)
      · split at h
        · rename_i p hp; cases h; exact .inr (.inr (.inr ⟨_, _, rfl, slimY_ok hp⟩))
        · split at h
          · rename_i l' hl; cases h; exact .inr (.inr (.inl ⟨l', rfl, slimX2_ok hl⟩))
          · split at h
            · rename_i h1; cases h; exact .inl ⟨rfl, h1.1⟩
            · simp only [Option.map_eq_some_iff] at h
              obtain ⟨n, hn, rfl⟩ := h
              exact .inr (.inl ⟨n, rfl, tailQ_ok hn⟩)
  · cases h
def slimX (P : Program) (N : Nat) (rs vs : List Nat) (ops : Array Oper) (l : List SI) : Option SC :=
  match slimX0 P N rs vs ops l with
  | some s => some s
  | none => if P.follows .mixedOrders = true ∧ noDefer ops = true then (slimZ1 P N rs vs ops l).map .rgZ else none
theorem slimX_inv {P : Program} {N : Nat} {rs vs : List Nat} {ops : Array Oper} {l : List SI} {s : SC} (h : slimX P N rs vs ops l = some s) :
    (P.follows .mixedOrders = true ∧ noDefer ops = true) ∧ ((s = .reg true l ∧ Region.lexB .any ops = true) ∨ (∃ n, s = .rgT (l.take n) (l.drop n) ∧ Region.lexTailB .any ops n = true) ∨ (∃ l', s = .rgX l' ∧ XOk P N rs vs ops l') ∨ (∃ l1 l2, s = .rgY l1 l2 ∧ YOk P N rs vs ops l1 l2) ∨ ∃ t, s = .rgZ t ∧ ZOk P N rs vs ops t) := by
  unfold slimX at h
  split at h
  · rename_i s' hs
    cases h
    obtain ⟨h1, h2 | h2 | h2 | h2⟩ := slimX0_inv hs
    · exact ⟨h1, .inl h2⟩
    · exact ⟨h1, .inr (.inl h2)⟩
    · exact ⟨h1, .inr (.inr (.inl h2))⟩
    · exact ⟨h1, .inr (.inr (.inr (.inl h2)))⟩
  · split at h
    · rename_i hc
      simp only [Option.map_eq_some_iff] at h
      obtain ⟨t, ht, rfl⟩ := h
      exact ⟨hc, .inr (.inr (.inr (.inr ⟨t, rfl, slimZ1_ok ht⟩)))⟩
    · cases h
def slimC (P : Program) (N : Nat) (rs vs : List Nat) : Code → Option SC
  | .skip => some .skip
  | .region _ ops draw => match slimL P N rs vs ops ops.toList [] with
    | some l => if draw = true then slimX P N rs vs ops l else some (.reg false l)
    | none => some .dead
  | .seq x y => (slimC P N rs vs x).bind fun x => (slimC P N rs vs y).map fun y => .seq x y
  | .cond c x y => (slO vs N c).bind fun c => (slimC P N rs vs x).bind fun x => (slimC P N rs vs y).map fun y => .cond c x y
  | .block id x => (slimC P N rs vs x).map fun x => .blk id x
  | .loop x => (slimC P N rs vs x).map fun x => .loop x
  | .scope x => (slimC P N rs vs x).map fun x => .scp x
  | .exit id => some (.exit id)
  | .label l => some (.lab l)
  | .ret => some .ret
  | .rangeFunc g ps x y => (slO vs N g).bind fun g => if ps.all (fun p => decide (p < N) && !vs.contains p) = true then (slimC P N rs vs x).bind fun x => (slimC P N rs vs y).map fun y => .rf g ps.toList x y else none
  | _ => none

/-- What code asks, seen through its types. -/
def wK (r : Option Nat) (P : Program) (N : Nat) (rs vs : List Nat) (s : SC) (Q : Exit → Env → H → Prop) (e : Env) (h : H) : Prop :=
  ∀ c, slimC P N rs vs c = some s → wpH r P N rs vs c Q e h

section rules
variable {r : Option Nat} {P : Program} {N : Nat} {rs vs : List Nat} {Q : Exit → Env → H → Prop} {K : Env → H → Prop} {e : Env} {h : H}

theorem slimC_inv {c : Code} {s : SC} (hs : slimC P N rs vs c = some s) :
    match s with
    | .skip => c = .skip
    | .reg d l => ∃ id ops, c = .region id ops d ∧ slimL P N rs vs ops ops.toList [] = some l ∧ (d = true → P.follows .mixedOrders = true ∧ Region.lexB .any ops = true ∧ noDefer ops = true)
    | .rgT l1 l2 => ∃ id ops l n, c = .region id ops true ∧ slimL P N rs vs ops ops.toList [] = some l ∧ (P.follows .mixedOrders = true ∧ Region.lexTailB .any ops n = true ∧ noDefer ops = true) ∧ l1 = l.take n ∧ l2 = l.drop n
    | .rgX l' => ∃ id ops, c = .region id ops true ∧ (P.follows .mixedOrders = true ∧ noDefer ops = true) ∧ XOk P N rs vs ops l'
    | .rgY l1 l2 => ∃ id ops, c = .region id ops true ∧ (P.follows .mixedOrders = true ∧ noDefer ops = true) ∧ YOk P N rs vs ops l1 l2
    | .rgZ t => ∃ id ops, c = .region id ops true ∧ (P.follows .mixedOrders = true ∧ noDefer ops = true) ∧ ZOk P N rs vs ops t
    | .dead => True
    | .seq x y => ∃ cx cy, c = .seq cx cy ∧ slimC P N rs vs cx = some x ∧ slimC P N rs vs cy = some y
    | .cond o x y => ∃ co cx cy, c = .cond co cx cy ∧ slO vs N co = some o ∧ slimC P N rs vs cx = some x ∧ slimC P N rs vs cy = some y
    | .blk id x => ∃ cx, c = .block id cx ∧ slimC P N rs vs cx = some x
    | .loop x => ∃ cx, c = .loop cx ∧ slimC P N rs vs cx = some x
    | .scp x => ∃ cx, c = .scope cx ∧ slimC P N rs vs cx = some x
    | .exit id => c = .exit id
    | .lab l => c = .label l
    | .ret => c = .ret
    | .rf g ps x y => ∃ cg cps cx cy, c = .rangeFunc cg cps cx cy ∧ slO vs N cg = some g ∧ cps.toList = ps ∧ (cps.all (fun p => decide (p < N) && !vs.contains p) = true) ∧ slimC P N rs vs cx = some x ∧ slimC P N rs vs cy = some y := by
  cases c <;> simp only [slimC] at hs <;> try (cases hs; done)
  case skip => cases hs; rfl
  case region id ops d =>
    split at hs
    · rename_i l hl
      cases d with
      | false => simp at hs; subst hs; exact ⟨id, ops, rfl, hl, fun h => by cases h⟩
      | true =>
        simp only [if_true] at hs
        obtain ⟨hc, ⟨rfl, h1⟩ | ⟨n, rfl, h1⟩ | ⟨l', rfl, h1⟩ | ⟨l1, l2, rfl, h1⟩ | ⟨t, rfl, h1⟩⟩ := slimX_inv hs
        · exact ⟨id, ops, rfl, hl, fun _ => ⟨hc.1, h1, hc.2⟩⟩
        · exact ⟨id, ops, l, n, rfl, hl, ⟨hc.1, h1, hc.2⟩, rfl, rfl⟩
        · exact ⟨id, ops, rfl, hc, h1⟩
        · exact ⟨id, ops, rfl, hc, h1⟩
        · exact ⟨id, ops, rfl, hc, h1⟩
    · cases hs; trivial
  case seq x y =>
    simp only [Option.bind_eq_some_iff, Option.map_eq_some_iff] at hs
    obtain ⟨x', hx, y', hy, rfl⟩ := hs
    exact ⟨x, y, rfl, hx, hy⟩
  case cond c x y =>
    simp only [Option.bind_eq_some_iff, Option.map_eq_some_iff] at hs
    obtain ⟨c', hc, x', hx, y', hy, rfl⟩ := hs
    exact ⟨c, x, y, rfl, hc, hx, hy⟩
  case block id x =>
    simp only [Option.map_eq_some_iff] at hs
    obtain ⟨x', hx, rfl⟩ := hs
    exact ⟨x, rfl, hx⟩
  case loop x =>
    simp only [Option.map_eq_some_iff] at hs
    obtain ⟨x', hx, rfl⟩ := hs
    exact ⟨x, rfl, hx⟩
  case scope x =>
    simp only [Option.map_eq_some_iff] at hs
    obtain ⟨x', hx, rfl⟩ := hs
    exact ⟨x, rfl, hx⟩
  case exit id => cases hs; rfl
  case label l => cases hs; rfl
  case ret => cases hs; rfl
  case rangeFunc g ps x y =>
    simp only [Option.bind_eq_some_iff] at hs
    obtain ⟨g', hg, hs⟩ := hs
    split at hs
    · rename_i hps
      simp only [Option.bind_eq_some_iff, Option.map_eq_some_iff] at hs
      obtain ⟨x', hx, y', hy, rfl⟩ := hs
      exact ⟨g, ps, x, y, rfl, hg, rfl, hps, hx, hy⟩
    · cases hs

theorem wK_mono {s : SC} {Q' : Exit → Env → H → Prop} (hc : wK r P N rs vs s Q e h) (hq : ∀ x e h, Q x e h → Q' x e h) : wK r P N rs vs s Q' e h := fun c hs => wpH_mono (hc c hs) hq
theorem wK_skip (hq : Q .normal e h) : wK r P N rs vs .skip Q e h := fun c hs => by have := slimC_inv hs; dsimp only at this; subst this; exact wpH_skip hq
theorem wK_lab {l : Nat} (hq : Q .normal e h) : wK r P N rs vs (.lab l) Q e h := fun c hs => by have := slimC_inv hs; dsimp only at this; subst this; exact wpH_label hq
theorem wK_exit {id : Nat} (hq : Q (.exit id) e h) : wK r P N rs vs (.exit id) Q e h := fun c hs => by have := slimC_inv hs; dsimp only at this; subst this; exact wpH_exit hq
theorem wK_ret (hq : Q .ret e h) : wK r P N rs vs .ret Q e h := fun c hs => by have := slimC_inv hs; dsimp only at this; subst this; exact wpH_ret hq
theorem wK_seq {x y : SC} (hx : ∀ K : Env → H → Prop, (∀ e h, wK r P N rs vs y Q e h → K e h) → wK r P N rs vs x (thenH K Q) e h) : wK r P N rs vs (.seq x y) Q e h := fun c hs => by
  obtain ⟨cx, cy, rfl, h1, h2⟩ := slimC_inv hs
  exact wpH_seq (wpH_mono (hx (wK r P N rs vs y Q) (fun _ _ h => h) cx h1) fun ex e h hq => by cases ex <;> first | exact hq _ h2 | exact hq)
theorem wK_reg (hN : N ≤ 99999) {l : List SI} (hk : regionH P l e h fun e h => Q .normal e h) : wK r P N rs vs (.reg false l) Q e h := fun c hs => by
  obtain ⟨id, ops, rfl, h1, h2⟩ := slimC_inv hs
  exact wpH_mono (wpH_region (Q := Q) (K := fun e h => Q .normal e h) hN h1 hk) fun ex e h hq => by cases ex <;> exact hq
theorem wK_regQ (hN : N ≤ 99999) {l : List SI} (hk : regionQ P l e h fun e => Q .normal e h) : wK r P N rs vs (.reg true l) Q e h := fun c hs => by
  obtain ⟨id, ops, rfl, h1, h2⟩ := slimC_inv hs
  obtain ⟨h3, h4, h5⟩ := h2 rfl
  exact wpH_regionQ h3 h4 h5 hN h1 hk
theorem wK_rgT (hN : N ≤ 99999) {l1 l2 : List SI} (hk : regionQ P l1 e h fun e => regionH P l2 e h fun e h => Q .normal e h) : wK r P N rs vs (.rgT l1 l2) Q e h := fun c hs => by
  obtain ⟨id, ops, l, n, rfl, h1, ⟨h2, h3, h4⟩, rfl, rfl⟩ := slimC_inv hs
  exact wpH_regionT n h2 h3 h4 hN h1 hk
theorem wK_rgX (hN : N ≤ 99999) {l : List (Bool × SI)} (L1 : List Item) (hL : L1.Sublist h.L) (hk : regionX P ⟨h.G, L1, h.D⟩ l e h fun e h => Q .normal e h) : wK r P N rs vs (.rgX l) Q e h := fun c hs => by
  obtain ⟨id, ops, rfl, ⟨h1, h2⟩, σ, ol, sl, q1, q2, q3, q4, q5, q6, q7, rfl⟩ := slimC_inv hs
  exact wpH_regionX σ L1 hL h1 q1 h2 q2 q3 q4 q5 hN q6 q7 hk
theorem wK_rgY (hN : N ≤ 99999) {l : List (Bool × SI)} {l2 : List SI} (L1 : List Item) (hL : L1.Sublist h.L) (hk : regionX P ⟨h.G, L1, h.D⟩ l e h fun e h => regionH P l2 e h fun e h => Q .normal e h) : wK r P N rs vs (.rgY l l2) Q e h := fun c hs => by
  obtain ⟨id, ops, rfl, ⟨h1, h2⟩, n, σ, ol, sl, ⟨q1, q2⟩, ⟨s1, s2, s3⟩, q3, q4, q5, q6, q7, rfl, rfl⟩ := slimC_inv hs
  exact wpH_regionY n σ L1 hL h1 q1 h2 q2 s1 s2 s3 q3 q4 q5 hN q6 q7 hk
theorem wK_rgZ (hN : N ≤ 99999) {t : RX} (L1 : List Item) (hL : L1.Sublist h.L) (hk : regionZ P ⟨h.G, L1, h.D⟩ t e h fun e h => Q .normal e h) : wK r P N rs vs (.rgZ t) Q e h := fun c hs => by
  obtain ⟨id, ops, rfl, ⟨h1, h2⟩, σ, q1, q2, q3, q4, q5⟩ := slimC_inv hs
  exact wpH_regionZ σ L1 hL h1 q1 h2 q2 q3 q4 hN q5 hk
theorem wK_cond {o : O} {x y : SC} {t : Bool} (ht : ev e o = .bool t) (hx : t = true → wK r P N rs vs x Q e h) (hy : t = false → wK r P N rs vs y Q e h) : wK r P N rs vs (.cond o x y) Q e h := fun c hs => by
  obtain ⟨co, cx, cy, rfl, h0, h1, h2⟩ := slimC_inv hs
  refine wpH_cond h0 ht ?_
  cases t
  · exact hy rfl _ h2
  · exact hx rfl _ h1
theorem wK_blk {id : Nat} {x : SC} (hx : wK r P N rs vs x (blkH id Q) e h) : wK r P N rs vs (.blk id x) Q e h := fun c hs => by
  obtain ⟨cx, rfl, h1⟩ := slimC_inv hs
  exact wpH_block (hx _ h1)
theorem wK_loop {x : SC} (I : Env → H → Prop) (μ : Env → H → Nat) (h0 : I e h) (round : ∀ e h, I e h → wK r P N rs vs x (thenH (fun e' h' => I e' h' ∧ μ e' h' < μ e h) Q) e h) : wK r P N rs vs (.loop x) Q e h := fun c hs => by
  obtain ⟨cx, rfl, h1⟩ := slimC_inv hs
  exact wpH_loop I μ h0 fun e h hi => round e h hi _ h1
/-- What is known is turned, the memory left. -/
def noGo (Q : Exit → Env → H → Prop) : Exit → Env → H → Prop
  | .goto _, _, _ => False
  | x, e, h => Q x e h
theorem wK_scp {x : SC} (hx : wK none P N rs vs x (noGo Q) e h) : wK none P N rs vs (.scp x) Q e h := fun c hs => by
  obtain ⟨cx, rfl, hcx⟩ := slimC_inv hs
  intro β a w hr hw
  refine wpIn_wide.2 (wp_scope_straight (wpIn_wide.1 (wpIn_mono (hx cx hcx β a w hr hw) ?_)))
  rintro y a' w' ⟨β', e', h', q1, q2, q3, q4⟩
  cases y <;> first | exact ⟨β', e', h', q1, q2, q3, q4⟩ | exact q4.elim
def Ghost (h h' : H) : Prop := ∀ β w, Sat β h w → Sat β h' w ∧ Step β h w β h' w ∧ (h'.D = h.D ∧ RegSub h' h)
theorem wpH_ghost {c : Code} {h' : H} (hg : Ghost h h') (hc : wpH r P N rs vs c Q e h') : wpH r P N rs vs c Q e h := by
  intro β a w hr hs
  obtain ⟨g1, g2, g3, g4⟩ := hg β w hs
  refine wpIn_mono (hc β a w (hr.to g4 g3) g1) ?_
  rintro x a' w' ⟨β', e', h', r', s', st', q⟩
  exact ⟨β', e', h', r', s', g2.trans st', q⟩
theorem wK_ghost {s : SC} {h' : H} (hg : Ghost h h') (hc : wK r P N rs vs s Q e h') : wK r P N rs vs s Q e h := fun c hs => wpH_ghost hg (hc c hs)
theorem Ghost.trans {a b c : H} (h1 : Ghost a b) (h2 : Ghost b c) : Ghost a c := fun β w hs => by
  obtain ⟨a1, a2, a3, a4⟩ := h1 β w hs
  obtain ⟨b1, b2, b3, b4⟩ := h2 β w a1
  exact ⟨b1, a2.trans b2, b3.trans a3, a4.trans b4⟩
theorem Ghost.refl (a : H) : Ghost a a := fun _ _ hs => ⟨hs, .refl _ _ _, rfl, .refl a⟩
theorem ghost_sub {G : Nat → Option Obj} {L L' : List Item} {D : List Nat} (hs : L'.Sublist L) : Ghost ⟨G, L, D⟩ ⟨G, L', D⟩ := fun _ _ hw => by
  obtain ⟨a, b⟩ := sat_sub hw hs
  exact ⟨a, b, rfl, fun s cs h => ⟨cs, hs.subset h⟩⟩
theorem ghost_perm {G : Nat → Option Obj} {L L' : List Item} {D : List Nat} (hs : L.Perm L') : Ghost ⟨G, L, D⟩ ⟨G, L', D⟩ := fun _ _ hw => by
  obtain ⟨a, b⟩ := sat_perm hw hs
  exact ⟨a, b, rfl, fun s cs h => ⟨cs, hs.symm.subset h⟩⟩
/-- A slice without elements and room is one that the function made. -/
theorem ghost_nil {G : Nat → Option Obj} {L : List Item} {D : List Nat} (A : Option Addr) (et : TypeId) (sz : Nat) : Ghost ⟨G, L, D⟩ ⟨G, .row (.slice A 0 0) et sz 0 [] :: L, D⟩ := fun β w hw => by
  obtain ⟨a, b⟩ := sat_add (it := .row (.slice A 0 0) et sz 0 []) hw rfl rfl rfl (Nat.le_refl _) (fun _ _ => rfl) ⟨by simp, .inl ⟨A, rfl, rfl⟩⟩ (fun b hb => by cases A <;> simp [Item.block, rowBlock] at hb)
  refine ⟨a, b, rfl, fun s cs h => ?_⟩
  rcases List.mem_cons.1 h with h | h
  · cases h
  · exact ⟨cs, h⟩
end rules

/-! ### A function -/
/-- A result: a slot, or a place of a local variable. -/
inductive RS where
  | t (n : Nat)
  | r (s : Nat) (n : Option Nat)
  | c (s : Nat) (n : Option Nat)
def slimR (P : Program) (N : Nat) (rs vs : List Nat) : List ResultVar → Option (List RS)
  | [] => some []
  | .tmp n :: l => if n < N ∧ vs.contains n = false then (slimR P N rs vs l).map (.t n :: ·) else none
  | .cell s t :: l => if rs.contains s = true then (aggN P t).bind fun n => (slimR P N rs vs l).map (.r s n :: ·) else if s < N ∧ vs.contains s = false then (aggN P t).bind fun n => (slimR P N rs vs l).map (.c s n :: ·) else none
/-- What lies in a block that is owned. -/
def getB (b : Nat) : List Item → Option (List Value)
  | [] => none
  | .blk b' cs :: L => if b' = b then some cs else getB b L
  | _ :: L => getB b L
def blkO : Value → Option Nat
  | .pointer (some ⟨b, 0, none⟩) => some b
  | _ => none
def resV (e : Env) (h : H) : List RS → Option (List Value)
  | [] => some []
  | .t n :: l => (resV e h l).map (e n :: ·)
  | .r s n :: l => (getR s h.L).bind fun cs => (ldC cs 0 n).bind fun v => (resV e h l).map (v :: ·)
  | .c s n :: l => (blkO (e s)).bind fun b => (getB b h.L).bind fun cs => (ldC cs 0 n).bind fun v => (resV e h l).map (v :: ·)
def tupV : List Value → Value
  | [v] => v
  | l => .tuple l.toArray
end Go.Kx
