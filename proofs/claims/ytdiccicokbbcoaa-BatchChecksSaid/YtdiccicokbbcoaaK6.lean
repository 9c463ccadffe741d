/- The sixth text of the small logic: operations read off the program, and that each does what it asks. No condition. -/
import Derived.Test.YtdiccicokbbcoaaK5
set_option linter.unusedSimpArgs false
set_option linter.unusedVariables false
namespace Go.Kx
open Go Go.RowKit

def dstN (vs : List Nat) (o : Oper) : Option Nat :=
  match o.dst with
  | none => some 99999
  | some d => if vs.contains d then none else some d
def slOs (vs : List Nat) (N : Nat) : List Operand → Option (List O)
  | [] => some []
  | x :: xs => (slO vs N x).bind fun y => (slOs vs N xs).map (y :: ·)
def slOo (vs : List Nat) (N : Nat) : Option Operand → Option (Option O)
  | none => some none
  | some x => (slO vs N x).map some
def slParts (vs : List Nat) (N : Nat) (place : Nat → Option (Nat × Nat)) : List (Nat × Operand) → Option (List (Nat × Nat × O))
  | [] => some []
  | (i, x) :: ps => (place i).bind fun q => (slO vs N x).bind fun y => (slParts vs N place ps).map ((q.1, q.2, y) :: ·)
def zeros (z : Array Value) (n : Nat) : List Value := ((Array.range n).map (z[· % z.size]!)).toList

def isSl : Option TypeDesc → Bool
  | some (.slice _) => true
  | _ => false
def isU8 : Option TypeDesc → Bool
  | some (.int .u8) => true
  | _ => false
/-- An operation that is no local variable's. -/
def slimN (P : Program) (N : Nat) (vs : List Nat) (o : Oper) : Option SOp :=
  (dstN vs o).bind fun d =>
  match o.op with
  | .move x => (slO vs N x).map (.mv d)
  | .assign x => (slO vs N x).map (.mv d)
  | .pick c x y => (slO vs N c).bind fun c => (slO vs N x).bind fun x => (slO vs N y).map fun y => .pick d c x y
  | .binOp op t x y _ => (slO vs N x).bind fun x => (slO vs N y).bind fun y =>
    match P.underlying t with
    | some (.int _) => some (.bin d op x y)
    | some .string => some (.bin d op x y)
    | some .bool => (match op with | .eql => some false | .neq => some true | _ => none).map fun ne => .eqb d ne x y
    | some (.struct fs) => (match op with | .eql => some false | .neq => some true | _ => none).bind fun ne => (flatK P 0 fs.toList).bind fun ks =>
      if P.stoodInHeld t = false ∧ P.eqGuardType P.depth t = false then some (.eqf d ne ks x y) else none
    | some (.array n el) => (match op with | .eql => some false | .neq => some true | _ => none).bind fun ne => match P.underlying el, P.info? el with
      | some (.int _), some i => if P.cellsOf el = 1 ∧ P.eqGuardType P.depth t = false then some (.eqf d ne (List.replicate n 0) x y) else none
      | _, _ => none
    | _ => if isSl (P.underlying t) = true then (match op with | .eql => some false | .neq => some true | _ => none).bind fun ne => match y with | .v (.slice none 0 0) => some (.isn d ne x) | _ => none else none
  | .unOp op _ x => (slO vs N x).map fun x => .un d op x
  | .convert src dst x => (slO vs N x).bind fun x =>
    match P.underlying src, P.underlying dst with
    | some (.int _), some (.int k) => some (.cvI d k x)
    | some (.slice el), some .string => if isU8 (P.underlying el) = true then some (.cvS d x) else none
    | _, _ => none
  | .extract x i => (slO vs N x).map fun x => .ext d x i
  | .field t x f => (slO vs N x).bind fun x =>
    match P.underlying t with
    | some (.struct fs) => (fs[f]?).bind fun fd => (aggN P fd.type).map fun n => .fld d x fd.offset n
    | _ => none
  | .build t ps =>
    match P.underlying t, (P.info? t).bind (·.zero) with
    | some (.struct fs), some z => (fs.toList.mapM (fun f => (P.info? f.type).map fun i => (f.offset, i.size))).bind fun pl => (slParts vs N (pl.toArray[·]?) ps.toList).map fun qs => .bld d z.cells.toList qs
    | some (.array _ el), some z => (P.info? el).bind fun i => (slParts vs N (fun j => some (j * i.size, i.size)) ps.toList).map fun qs => .bld d z.cells.toList qs
    | _, _ => none
  | .makeFunc fn first cs => if first.size = 0 then (slOs vs N cs.toList).map fun ys => .mkf d fn ys else none
  | .nilCheck x => (slO vs N x).map fun x => .nck d x
  | .fieldAddr t x f => (slO vs N x).bind fun x =>
    match P.underlying t with
    | some (.struct fs) => (fs[f]?).bind fun fd => (P.info? fd.type).bind fun i => if i.size = 0 then none else some (.flA d x fd.offset)
    | _ => none
  | .indexAddr t x i => (slO vs N x).bind fun x => (slO vs N i).bind fun i =>
    match P.underlying t with
    | some (.slice el) => (P.info? el).map fun k => .ixA d x i k.size
    | some (.array n el) => (P.info? el).map fun k => .ixP d x i n k.size
    | _ => none
  | .index t x i => (slO vs N x).bind fun x => (slO vs N i).bind fun i =>
    match P.underlying t with
    | some (.array n el) => (P.info? el).bind fun k => (aggN P el).map fun m => .ixV d x i n k.size m
    | _ => none
  | .slice t x lo hi mx => (slO vs N x).bind fun x => (slOo vs N lo).bind fun lo => (slOo vs N hi).bind fun hi => (slOo vs N mx).bind fun mx =>
    match P.underlying t with
    | some (.slice el) => if mx.isSome = true ∧ hi.isNone = true then none else (P.info? el).map fun k => .sl d x lo hi mx k.size
    | _ => none
  | .alloc t => ((P.info? t).bind (·.zero)).map fun z => .al d z.cells.toList
  | .box _ x => (slO vs N x).map fun x => .bx d x
  | .load t x => (slO vs N x).bind fun x => (aggN P t).map fun n => .ld d x n
  | .store t x y => if o.dst.isNone then (slO vs N x).bind fun x => (slO vs N y).bind fun y => (P.info? t).map fun i => .st x i.size y else none
  | .buildSlice t n ps =>
    match P.underlying t with
    | some (.slice el) => (P.info? el).bind fun i => i.zero.bind fun z => (slParts vs N (fun j => some (j * i.size, i.size)) ps.toList).bind fun qs =>
      if n = 0 ∧ ps.size = 0 then some (.bl0 d) else if n = 0 ∨ i.size = 0 ∨ n * i.size > 2 ^ 24 then none else some (.bls d el n i.size (zeros z.cells (n * i.size)) qs)
    | _ => none
  | .call c =>
    (slOs vs N c.args.toList).bind fun xs =>
    match c.callee with
    | .value (.func f) => some (.call d f xs)
    | .value (.tmp n) => (slO vs N (.tmp n)).map fun f => .cav d f xs
    | .builtin .len =>
      match xs, c.argTypes.toList with
      | [x], [t] => (match P.underlying t with | some (.slice _) => some false | some .string => some true | _ => none).map fun b => .len d b x
      | _, _ => none
    | .builtin .max => match xs with | [x, y] => some (.mm d true x y) | _ => none
    | .builtin .min => match xs with | [x, y] => some (.mm d false x y) | _ => none
    | .builtin .append =>
      match xs, c.argTypes.toList with
      | [x, y], [t, tx] =>
        match P.underlying t with
        | some (.slice el) => (P.info? el).bind fun i => i.zero.bind fun z =>
          if z.cells.size = i.size then (match P.underlying tx with | some (.slice _) => some () | some .string => some () | _ => none).map fun _ => .app d x y el i.size i.bytes else none
        | _ => none
      | _, _ => none
    | _ => none
  | _ => none

section sound
variable {r : Option Nat} {P : Program} {N : Nat} {rs vs : List Nat} {β : Nat → Nat} {a : Act} {w w' : World} {e : Env} {h : H} {o : Oper} {X : Act → World → Prop} {Q : Exit → Act → World → Prop}

theorem calls_fr {n f args} {R : Ending → World → Prop} (hc : Calls P f args w R) : CallsIn (Fr r) n P f args w R := callsIn_wide.2 hc
theorem round_fr {n l f tmps} {assign body : Code} {R : Ending → World → Prop} (hc : RoundIn (Fr none) n P l f tmps assign body w R) : RoundIn (Fr r) n P l f tmps assign body w R := hc
def nodefer (o : Oper) : Prop := ∀ c, o.op ≠ .defer c
theorem wp_value {v : Value} (hd : nodefer o) (hrun : (execOp a.eval o).run P w = .ok (.value v) w') (hx : X (a.put o.dst v) w') : o.wpIn (Fr r) 0 P a w X Q :=
  ⟨fun _ _ => trivial, by rw [Oper.semAt_eq _ _ _ hd, hrun]; exact hx⟩
theorem wp_skip' (hd : nodefer o) (hrun : (execOp a.eval o).run P w = .ok .skip w') (hx : X (a.put o.dst undef) w') : o.wpIn (Fr r) 0 P a w X Q :=
  ⟨fun _ _ => trivial, by rw [Oper.semAt_eq _ _ _ hd, hrun]; exact hx⟩
theorem wp_enter {f : FuncId} {args : Array Value} (hd : nodefer o) (hrun : (execOp a.eval o).run P w = .ok (.enter f args) w') (hx : Calls P f args w' fun x w'' => ∃ v, x = .returned v ∧ X (a.put o.dst v) w'') : o.wpIn (Fr r) 0 P a w X Q :=
  ⟨fun _ _ => trivial, by
    rw [Oper.semAt_eq _ _ _ hd, hrun]
    refine ⟨fun hh => by simp [Fr, Fence.wide] at hh, (calls_fr hx).mono ?_⟩
    rintro x w'' ⟨v, rfl, h⟩
    exact h⟩
theorem wp_round {l f : Nat} {tmps : Array Value} {assign body : Code} (hd : nodefer o) (hrun : (execOp a.eval o).run P w = .ok (.round l f tmps assign body) w') (hx : RoundIn (Fr none) 0 P l f tmps assign body w' fun x w'' => ∃ v, x = .returned v ∧ X (a.put o.dst v) w'') : o.wpIn (Fr r) 0 P a w X Q :=
  ⟨fun _ _ => trivial, by
    rw [Oper.semAt_eq _ _ _ hd, hrun]
    refine ⟨fun hh => by simp [Fr, Fence.wide] at hh, (round_fr hx).mono ?_⟩
    rintro x w'' ⟨v, rfl, h⟩
    exact h⟩

theorem Rel.put {d : Nat} (hr : Rel r N rs vs β a e h) (hN : N ≤ 99999) (hd : dstN vs o = some d) (v : Value) : Rel r N rs vs β (a.put o.dst v) (e.set d v) h := by
  unfold dstN at hd
  split at hd
  · rename_i ho
    cases hd
    rw [ho]
    exact ⟨hr.size, fun i hi hv => by simp only [Env.set]; rw [if_neg (by omega)]; exact hr.env i hi hv, hr.reg, hr.dfr⟩
  · rename_i d' ho
    split at hd
    · cases hd
    · rename_i hv
      cases hd
      rw [ho]
      refine ⟨by simp [Act.put, hr.size], fun i hi hv' => ?_, fun s cs hs => ?_, hr.dfr⟩
      · simp only [Act.put, Env.set, Array.getD_eq_getD_getElem?, Array.getElem?_setIfInBounds]
        by_cases he : d = i
        · subst he; simp [hr.size, hi]
        · have := hr.env i hi hv'
          simp only [Array.getD_eq_getD_getElem?] at this
          rw [if_neg he, if_neg (Ne.symm he)]
          exact this
      · obtain ⟨h1, h2, h3⟩ := hr.reg s cs hs
        refine ⟨h1, h2, ?_⟩
        have hne : ¬ d = s := fun he => hv (by subst he; simpa using h1.2)
        simp only [Act.put, Array.getD_eq_getD_getElem?, Array.getElem?_setIfInBounds] at h3 ⊢
        rw [if_neg hne]
        exact h3
theorem Rel.to {h' : H} (hr : Rel r N rs vs β a e h) (hL : ∀ s cs, Item.reg s cs ∈ h'.L → ∃ cs', Item.reg s cs' ∈ h.L) (hD : h'.D = h.D) : Rel r N rs vs β a e h' :=
  ⟨hr.size, hr.env, fun s cs hs => by obtain ⟨cs', hs'⟩ := hL s cs hs; exact hr.reg s cs' hs', by rw [hD]; exact hr.dfr⟩
theorem Rel.put' (hr : Rel r N rs vs β a e h) (ho : o.dst = none) (v : Value) : Rel r N rs vs β (a.put o.dst v) e h := by rw [ho]; exact hr

theorem slOs_ev (hr : Rel r N rs vs β a e h) : ∀ {xs : List Operand} {ys : List O}, slOs vs N xs = some ys → xs.map a.eval = ys.map (ev e)
  | [], ys, hx => by simp only [slOs, Option.some.injEq] at hx; subst hx; rfl
  | x :: xs, ys, hx => by
    simp only [slOs, Option.bind_eq_some_iff, Option.map_eq_some_iff] at hx
    obtain ⟨y, hy, ys', hys, rfl⟩ := hx
    simp [slO_ev hr hy, slOs_ev hr hys]
theorem slOo_bnd (hr : Rel r N rs vs β a e h) {x : Option Operand} {y : Option O} (hx : slOo vs N x = some y) : x.map a.eval = y.map (ev e) := by
  cases x with
  | none => simp only [slOo, Option.some.injEq] at hx; subst hx; rfl
  | some x =>
    simp only [slOo, Option.map_eq_some_iff] at hx
    obtain ⟨y', hy, rfl⟩ := hx
    simp [slO_ev hr hy]
theorem slParts_ok (hr : Rel r N rs vs β a e h) (place : Nat → Option (Nat × Nat)) : ∀ (ps : List (Nat × Operand)) (qs : List (Nat × Nat × O)), slParts vs N place ps = some qs →
    (ps.map fun (p : Nat × Operand) => (p.1, a.eval p.2)).length = (qs.map fun p => (p.1, p.2.1, cellsL (ev e p.2.2))).length ∧
    ∀ (j i : Nat) (v : Value), (ps.map fun (p : Nat × Operand) => (p.1, a.eval p.2))[j]? = some (i, v) → ∃ o n, place i = some (o, n) ∧ (qs.map fun p => (p.1, p.2.1, cellsL (ev e p.2.2)))[j]? = some (o, n, v.cells.toList)
  | [], qs, hx => by simp only [slParts, Option.some.injEq] at hx; subst hx; simp
  | (i, x) :: ps, qs, hx => by
    simp only [slParts, Option.bind_eq_some_iff, Option.map_eq_some_iff] at hx
    obtain ⟨q, hq, y, hy, qs', hqs, rfl⟩ := hx
    obtain ⟨h1, h2⟩ := slParts_ok hr place ps qs' hqs
    refine ⟨by simpa using h1, fun j i' v hj => ?_⟩
    cases j with
    | zero =>
      simp only [List.map_cons, List.getElem?_cons_zero, Option.some.injEq, Prod.mk.injEq] at hj
      obtain ⟨rfl, rfl⟩ := hj
      exact ⟨q.1, q.2, hq, by simp [cellsL, slO_ev hr hy]⟩
    | succ j => simpa using h2 j i' v (by simpa using hj)
end sound
end Go.Kx
