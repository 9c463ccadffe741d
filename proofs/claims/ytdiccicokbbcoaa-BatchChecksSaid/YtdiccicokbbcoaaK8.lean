/- The eighth text of the small logic: operations on memory, and calls. No condition. -/
import Derived.Test.YtdiccicokbbcoaaK7
import Derived.Laws.BytesString
set_option linter.unusedSimpArgs false
set_option linter.unusedVariables false
namespace Go.Kx
open Go Go.RowKit

def isPure : SOp → Bool
  | .mv .. | .pick .. | .bin .. | .eqb .. | .eqf .. | .un .. | .isn .. | .cvI .. | .ext .. | .fld .. | .bld .. | .mkf .. | .len .. | .mm .. | .nck .. | .flA .. | .ixP .. | .ixV .. => true
  | _ => false

section sound
variable {r : Option Nat} {P : Program} {N : Nat} {rs vs : List Nat} {β : Nat → Nat} {a : Act} {w : World} {e : Env} {h : H} {o : Oper} {K : Env → H → Prop} {Q : Exit → Act → World → Prop} {s : SOp} {d : Nat}

theorem opS_pure (hp : isPure s = true) (hk : opS P s e h K) : ∃ v, pureV s e = some v ∧ K (e.set (dstS s) v) h := by
  cases s <;> first | (cases hp; done) | (simp only [opS] at hk; split at hk <;> first | exact ⟨_, ‹_›, hk⟩ | exact hk.elim)
theorem opQ_pure {K : Env → Prop} (hp : isPure s = true) (hk : opQ P s e h K) : ∃ v, pureV s e = some v ∧ K (e.set (dstS s) v) := by
  cases s <;> first | (cases hp; done) | (simp only [opQ] at hk; split at hk <;> first | exact ⟨_, ‹_›, hk⟩ | exact hk.elim)

/-- Not a pure one: which one it is. -/
inductive Mem (P : Program) (N : Nat) (vs : List Nat) (o : Oper) : SOp → Prop
  | al {d t i z} (ho : o.op = .alloc t) (hd : dstN vs o = some d) (hi : P.info? t = some i) (hz : i.zero = some z) : Mem P N vs o (.al d z.cells.toList)
  | bx {d t x y} (ho : o.op = .box t x) (hd : dstN vs o = some d) (hx : slO vs N x = some y) : Mem P N vs o (.bx d y)
  | ld {d t x y n} (ho : o.op = .load t x) (hd : dstN vs o = some d) (hx : slO vs N x = some y) (hn : aggN P t = some n) : Mem P N vs o (.ld d y n)
  | cvS {d src dst x y el} (ho : o.op = .convert src dst x) (hd : dstN vs o = some d) (hx : slO vs N x = some y) (hs : P.underlying src = some (.slice el)) (ht : P.underlying dst = some .string) (he : P.underlying el = some (.int .u8)) : Mem P N vs o (.cvS d y)
  | st {t x y u v i} (ho : o.op = .store t x u) (hd : o.dst = none) (hx : slO vs N x = some y) (hu : slO vs N u = some v) (hi : P.info? t = some i) : Mem P N vs o (.st y i.size v)
  | ixA {d t x y j k el i} (ho : o.op = .indexAddr t x j) (hd : dstN vs o = some d) (hx : slO vs N x = some y) (hj : slO vs N j = some k) (ht : P.underlying t = some (.slice el)) (hi : P.info? el = some i) : Mem P N vs o (.ixA d y k i.size)
  | sl {d t x y lo hi mx lo' hi' mx' el i} (ho : o.op = .slice t x lo hi mx) (hd : dstN vs o = some d) (hx : slO vs N x = some y) (hl : slOo vs N lo = some lo') (hh : slOo vs N hi = some hi') (hm : slOo vs N mx = some mx')
      (hmh : ¬ (mx'.isSome = true ∧ hi'.isNone = true)) (ht : P.underlying t = some (.slice el)) (hi : P.info? el = some i) : Mem P N vs o (.sl d y lo' hi' mx' i.size)
  | bls {d t n ps qs el i z} (ho : o.op = .buildSlice t n ps) (hd : dstN vs o = some d) (ht : P.underlying t = some (.slice el)) (hi : P.info? el = some i) (hz : i.zero = some z) (hq : slParts vs N (fun j => some (j * i.size, i.size)) ps.toList = some qs)
      (hc : ¬ (n = 0 ∨ i.size = 0 ∨ n * i.size > 2 ^ 24)) : Mem P N vs o (.bls d el n i.size (zeros z.cells (n * i.size)) qs)
  | bl0 {d t ps el i} (ho : o.op = .buildSlice t 0 ps) (hps : ps.size = 0) (hd : dstN vs o = some d) (ht : P.underlying t = some (.slice el)) (hi : P.info? el = some i) : Mem P N vs o (.bl0 d)
  | call {d c f xs} (ho : o.op = .call c) (hd : dstN vs o = some d) (hc : c.callee = .value (.func f)) (hx : slOs vs N c.args.toList = some xs) : Mem P N vs o (.call d f xs)
  | cav {d c n f xs} (ho : o.op = .call c) (hd : dstN vs o = some d) (hc : c.callee = .value (.tmp n)) (hf : slO vs N (.tmp n) = some f) (hx : slOs vs N c.args.toList = some xs) : Mem P N vs o (.cav d f xs)
  | app {d c x y t tx el i z} (ho : o.op = .call c) (hd : dstN vs o = some d) (hc : c.callee = .builtin .append) (hx : slOs vs N c.args.toList = some [x, y]) (ha : c.argTypes.toList = [t, tx]) (ht : P.underlying t = some (.slice el))
      (hi : P.info? el = some i) (hz : i.zero = some z) (hzs : z.cells.size = i.size) (htx : (∃ e', P.underlying tx = some (.slice e')) ∨ P.underlying tx = some .string) : Mem P N vs o (.app d x y el i.size i.bytes)

theorem push_all : ∀ (l : List UInt8) (s : ByteArray), (l.map fun b => (b.toNat : Int)).foldl (fun r n => r.push (UInt8.ofNat n.toNat)) s = ⟨s.data ++ l.toArray⟩
  | [], s => by simp
  | b :: l, s => by
    rw [List.map_cons, List.foldl_cons, push_all l]
    have : UInt8.ofNat ((b.toNat : Int)).toNat = b := by simp
    rw [this]
    simp [ByteArray.push]
theorem cvS_run {src dst el : TypeId} {v : Value} {s : ByteArray} (hs : P.underlying src = some (.slice el)) (ht : P.underlying dst = some .string) (he : P.underlying el = some (.int .u8)) (hw : Sat β h w) (hv : StrAt h v s) : (convert src dst v).run P w = .ok (.string s) w := by
  have h0 : (Conv.bytesToString v).run P w = .ok (.string s) w := by
    rcases hv with ⟨c, rfl, rfl⟩ | ⟨ad, c, rfl, hc⟩
    · simp [Conv.bytesToString]
    · have h1 := run_loadCells_list (P := P) w ad (byteCells s) (fun j u hu => (hc j u hu).sound hw)
      have h2 : byteCells s = (s.data.toList.map fun b => (b.toNat : Int)).map (Value.int .u8) := by simp [byteCells]
      have h3 : (byteCells s).length = s.size := by unfold byteCells; rw [List.length_map]; rfl
      rw [h3, h2] at h1
      have := run_bytesToString w ad s.size c (s.data.toList.map fun b => (b.toNat : Int)) h1
      rw [push_all] at this
      simpa using this
  simp only [convert, Sem.run_bind, run_underlying hs, run_underlying ht, Result.andThen_ok]
  rcases hv with ⟨c, rfl, rfl⟩ | ⟨ad, c, rfl, hc⟩ <;> simp [run_underlying he, h0]
theorem slimN_mem (hs : slimN P N vs o = some s) (hp : isPure s = false) : Mem P N vs o s := by
  unfold slimN at hs
  simp only [Option.bind_eq_some_iff] at hs
  obtain ⟨d, hd, hs⟩ := hs
  cases ho : o.op <;> simp only [ho] at hs <;> try (cases hs; done)
  case move x => simp only [Option.map_eq_some_iff] at hs; obtain ⟨_, _, rfl⟩ := hs; cases hp
  case assign x => simp only [Option.map_eq_some_iff] at hs; obtain ⟨_, _, rfl⟩ := hs; cases hp
  case pick c x y => simp only [Option.bind_eq_some_iff, Option.map_eq_some_iff] at hs; obtain ⟨_, _, _, _, _, _, rfl⟩ := hs; cases hp
  case binOp op t x y ty =>
    simp only [Option.bind_eq_some_iff] at hs
    obtain ⟨_, _, _, _, hs⟩ := hs
    split at hs
    · cases hs; cases hp
    · cases hs; cases hp
    · simp only [Option.map_eq_some_iff] at hs; obtain ⟨_, _, rfl⟩ := hs; cases hp
    · simp only [Option.bind_eq_some_iff] at hs
      obtain ⟨_, _, _, _, hs⟩ := hs
      split at hs
      · cases hs; cases hp
      · cases hs
    · simp only [Option.bind_eq_some_iff] at hs
      obtain ⟨_, _, hs⟩ := hs
      split at hs
      · split at hs
        · cases hs; cases hp
        · cases hs
      · cases hs
    · split at hs
      · simp only [Option.bind_eq_some_iff] at hs
        obtain ⟨_, _, hs⟩ := hs
        split at hs
        · cases hs; cases hp
        · cases hs
      · cases hs
  case unOp op ty x => simp only [Option.map_eq_some_iff] at hs; obtain ⟨_, _, rfl⟩ := hs; cases hp
  case convert src dst x =>
    simp only [Option.bind_eq_some_iff] at hs
    obtain ⟨y, hy, hs⟩ := hs
    split at hs
    · cases hs; cases hp
    · rename_i el h1 h2
      split at hs
      · rename_i h3
        cases hs
        refine .cvS ho hd hy h1 h2 ?_
        cases h4 : P.underlying el with
        | none => rw [h4] at h3; cases h3
        | some dd => rw [h4] at h3; cases dd <;> first | cases h3 | skip
                     rename_i k; cases k <;> first | rfl | cases h3
      · cases hs
    · cases hs
  case index t x i =>
    simp only [Option.bind_eq_some_iff] at hs
    obtain ⟨_, _, _, _, hs⟩ := hs
    split at hs
    · simp only [Option.bind_eq_some_iff, Option.map_eq_some_iff] at hs; obtain ⟨_, _, _, _, rfl⟩ := hs; cases hp
    · cases hs
  case extract x i => simp only [Option.map_eq_some_iff] at hs; obtain ⟨_, _, rfl⟩ := hs; cases hp
  case field t x f =>
    simp only [Option.bind_eq_some_iff] at hs
    obtain ⟨_, _, hs⟩ := hs
    split at hs
    · simp only [Option.bind_eq_some_iff, Option.map_eq_some_iff] at hs; obtain ⟨_, _, _, _, rfl⟩ := hs; cases hp
    · cases hs
  case build t ps =>
    split at hs
    · simp only [Option.bind_eq_some_iff, Option.map_eq_some_iff] at hs; obtain ⟨_, _, _, _, rfl⟩ := hs; cases hp
    · simp only [Option.bind_eq_some_iff, Option.map_eq_some_iff] at hs; obtain ⟨_, _, _, _, rfl⟩ := hs; cases hp
    · cases hs
  case makeFunc fn first cs =>
    split at hs
    · simp only [Option.map_eq_some_iff] at hs; obtain ⟨_, _, rfl⟩ := hs; cases hp
    · cases hs
  case nilCheck x => simp only [Option.map_eq_some_iff] at hs; obtain ⟨_, _, rfl⟩ := hs; cases hp
  case fieldAddr t x f =>
    simp only [Option.bind_eq_some_iff] at hs
    obtain ⟨_, _, hs⟩ := hs
    split at hs
    · simp only [Option.bind_eq_some_iff] at hs
      obtain ⟨_, _, _, _, hs⟩ := hs
      split at hs
      · cases hs
      · cases hs; cases hp
    · cases hs
  case alloc t =>
    simp only [Option.map_eq_some_iff, Option.bind_eq_some_iff] at hs
    obtain ⟨z, ⟨i, hi, hz⟩, rfl⟩ := hs
    exact .al ho hd hi hz
  case box t x =>
    simp only [Option.map_eq_some_iff] at hs
    obtain ⟨y, hy, rfl⟩ := hs
    exact .bx ho hd hy
  case load t x =>
    simp only [Option.bind_eq_some_iff, Option.map_eq_some_iff] at hs
    obtain ⟨y, hy, n, hn, rfl⟩ := hs
    exact .ld ho hd hy hn
  case store t x u =>
    split at hs
    · rename_i hdn
      simp only [Option.bind_eq_some_iff, Option.map_eq_some_iff] at hs
      obtain ⟨y, hy, v, hv, i, hi, rfl⟩ := hs
      exact .st ho (by simpa using hdn) hy hv hi
    · cases hs
  case indexAddr t x j =>
    simp only [Option.bind_eq_some_iff] at hs
    obtain ⟨y, hy, k, hk, hs⟩ := hs
    split at hs
    · rename_i el hel
      simp only [Option.map_eq_some_iff] at hs
      obtain ⟨i, hi, rfl⟩ := hs
      exact .ixA ho hd hy hk hel hi
    · simp only [Option.map_eq_some_iff] at hs; obtain ⟨_, _, rfl⟩ := hs; cases hp
    · cases hs
  case slice t x lo hi mx =>
    simp only [Option.bind_eq_some_iff] at hs
    obtain ⟨y, hy, lo', hl, hi', hh, mx', hm, hs⟩ := hs
    split at hs
    · rename_i el hel
      split at hs
      · cases hs
      · rename_i hc
        simp only [Option.map_eq_some_iff] at hs
        obtain ⟨i, hi, rfl⟩ := hs
        exact .sl ho hd hy hl hh hm hc hel hi
    · cases hs
  case buildSlice t n ps =>
    split at hs
    · rename_i el hel
      simp only [Option.bind_eq_some_iff] at hs
      obtain ⟨i, hi, z, hz, qs, hq, hs⟩ := hs
      split at hs
      · rename_i hn0
        cases hs
        exact .bl0 (by rw [ho, hn0.1]) hn0.2 hd hel hi
      · split at hs
        · cases hs
        · rename_i hc
          cases hs
          exact .bls ho hd hel hi hz hq hc
    · cases hs
  case call c =>
    simp only [Option.bind_eq_some_iff] at hs
    obtain ⟨xs, hxs, hs⟩ := hs
    split at hs
    · rename_i f hc
      cases hs
      exact .call ho hd hc hxs
    · rename_i n hc
      simp only [Option.map_eq_some_iff] at hs
      obtain ⟨f, hf, rfl⟩ := hs
      exact .cav ho hd hc hf hxs
    · split at hs
      · simp only [Option.map_eq_some_iff] at hs; obtain ⟨_, _, rfl⟩ := hs; cases hp
      · cases hs
    · split at hs
      · cases hs; cases hp
      · cases hs
    · split at hs
      · cases hs; cases hp
      · cases hs
    · rename_i hc
      split at hs
      · rename_i x y t tx ha
        split at hs
        · rename_i el hel
          simp only [Option.bind_eq_some_iff] at hs
          obtain ⟨i, hi, z, hz, hs⟩ := hs
          split at hs
          · rename_i hzs
            simp only [Option.map_eq_some_iff] at hs
            obtain ⟨u, hu, rfl⟩ := hs
            refine .app ho hd hc hxs ha hel hi hz hzs ?_
            split at hu
            · exact .inl ⟨_, ‹_›⟩
            · exact .inr ‹_›
            · cases hu
          · cases hs
        · cases hs
      · cases hs
    · cases hs

theorem srcH_src {v : Value} {sz m : Nat} {ys : List Value} {tx : TypeId} (hw : Sat β h w) (htx : (∃ e', P.underlying tx = some (.slice e')) ∨ P.underlying tx = some .string) (hs : SrcH h v sz m ys) (hk : (∃ e', P.underlying tx = some (.slice e')) ∨ P.underlying tx = some .string := htx) :
    Src P sz tx v m ys w := by
  obtain ⟨h1, h2, h3⟩ := hs
  rcases h3 with ⟨c, rfl, rfl⟩ | ⟨ad, c, rfl, hc⟩ | ⟨str, rfl, rfl, rfl, rfl⟩
  · have hy : ys = [] := List.eq_nil_of_length_eq_zero (by simpa using h2)
    subst hy
    exact ⟨hk, fun _ => rfl, run_firstCells_none w sz 0 0 c, run_firstCells_none w.drew sz 0 0 c, by simp, fun _ h => by cases h⟩
  · have hcell : ∀ j u, ys[j]? = some u → w.cell? (ad.add j) = some u := fun j u hu => (hc j u hu).sound hw
    exact ⟨hk, fun _ => rfl, run_firstCells_some w sz m ad m c ys h2 hcell, run_firstCells_some w.drew sz m ad m c ys h2 (by simpa using hcell), h2, h1⟩
  · exact ⟨hk, fun _ => rfl, firstCells_string str w, firstCells_string str w.drew, h2, h1⟩

theorem regs_append {L1 L2 : List Item} {it it' : Item} (hne : ∀ s cs, it' ≠ .reg s cs) (s : Nat) (cs : List Value) (hm : Item.reg s cs ∈ L1 ++ it' :: L2) : ∃ cs', Item.reg s cs' ∈ L1 ++ it :: L2 := by
  rcases List.mem_append.1 hm with h | h
  · exact ⟨cs, by simp [h]⟩
  · rcases List.mem_cons.1 h with h | h
    · exact absurd h.symm (hne s cs)
    · exact ⟨cs, by simp [h]⟩

theorem sliceBound_run {k : IntKind} {j : Int} {y : Nat} {code : BoundsCode} (hj : 0 ≤ j ∧ j ≤ (y : Int)) : (Instr.sliceBound (.int k j) y code).run P w = .ok j.toNat w := by
  simp [Instr.sliceBound, asIntOf, hj]
theorem slice_run {t el : TypeId} {i : TypeInfo} {A : Option Addr} {n c : Nat} {lo hi mx : Option O} {l u m : Int} (ht : P.underlying t = some (.slice el)) (hi' : P.info? el = some i) (hl : bnd e 0 lo = some l) (hu : bnd e n hi = some u) (hm : bnd e c mx = some m)
    (hmh : ¬ (mx.isSome = true ∧ hi.isNone = true)) (hb : 0 ≤ l ∧ l ≤ u ∧ u ≤ m ∧ m ≤ c) :
    (Instr.sliceAt t (.slice A n c) (lo.map (ev e)) (hi.map (ev e)) (mx.map (ev e))).run P w = .ok (.slice (if m.toNat = l.toNat then A else A.map (·.add (l.toNat * i.size))) (u.toNat - l.toNat) (m.toNat - l.toNat)) w := by
  obtain ⟨b0, b1, b2, b3⟩ := hb
  have key : ∀ (d j : Int) (x : Option O), bnd e d x = some j → (x = none ∧ j = d) ∨ ∃ y k, x = some y ∧ ev e y = .int k j := by
    intro d j x hx
    cases x with
    | none => simp only [bnd, Option.some.injEq] at hx; exact .inl ⟨rfl, hx.symm⟩
    | some y =>
      simp only [bnd, intV] at hx
      split at hx
      · rename_i k j' hj; cases hx; exact .inr ⟨y, k, rfl, hj⟩
      · cases hx
  have hbs : (Instr.sliceBounds true n c (lo.map (ev e)) (hi.map (ev e)) (mx.map (ev e))).run P w = .ok (l.toNat, u.toNat, m.toNat) w := by
    rcases key _ _ _ hl with ⟨rfl, rfl⟩ | ⟨y1, k1, rfl, e1⟩ <;> rcases key _ _ _ hu with ⟨rfl, rfl⟩ | ⟨y2, k2, rfl, e2⟩ <;> rcases key _ _ _ hm with ⟨rfl, rfl⟩ | ⟨y3, k3, rfl, e3⟩
    · rfl
    · exact absurd ⟨rfl, rfl⟩ hmh
    · simp only [Instr.sliceBounds, Option.map_some, Option.map_none, Sem.run_bind, Sem.run_pure, Result.andThen_ok, e2, sliceBound_run (show 0 ≤ u ∧ u ≤ ((c : Nat) : Int) by omega)]
      rfl
    · simp only [Instr.sliceBounds, Option.map_some, Option.map_none, Sem.run_bind, Sem.run_pure, Result.andThen_ok, e2, e3, sliceBound_run (show 0 ≤ m ∧ m ≤ ((c : Nat) : Int) by omega), sliceBound_run (show 0 ≤ u ∧ u ≤ (m.toNat : Int) by omega)]
      rfl
    · simp only [Instr.sliceBounds, Option.map_some, Option.map_none, Sem.run_bind, Sem.run_pure, Result.andThen_ok, e1, sliceBound_run (show 0 ≤ l ∧ l ≤ ((n : Nat) : Int) by omega)]
      rfl
    · exact absurd ⟨rfl, rfl⟩ hmh
    · simp only [Instr.sliceBounds, Option.map_some, Option.map_none, Sem.run_bind, Sem.run_pure, Result.andThen_ok, e1, e2, sliceBound_run (show 0 ≤ u ∧ u ≤ ((c : Nat) : Int) by omega), sliceBound_run (show 0 ≤ l ∧ l ≤ (u.toNat : Int) by omega)]
      rfl
    · simp only [Instr.sliceBounds, Option.map_some, Sem.run_bind, Sem.run_pure, Result.andThen_ok, e1, e2, e3, sliceBound_run (show 0 ≤ m ∧ m ≤ ((c : Nat) : Int) by omega), sliceBound_run (show 0 ≤ u ∧ u ≤ (m.toNat : Int) by omega), sliceBound_run (show 0 ≤ l ∧ l ≤ (u.toNat : Int) by omega)]
  simp [Instr.sliceAt, run_underlying ht, Instr.slice, hbs, run_sizeOf hi']

theorem Sat.fresh {β h w} (hw : Sat β h w) : h.G w.heap.size = none := by
  cases hg : h.G w.heap.size with
  | none => rfl
  | some o => have := hw.g_lt hg; omega
/-- **Every operation does what it asks.** -/
theorem opN_sound (hs : slimN P N vs o = some s) (hN : N ≤ 99999) (hr : Rel r N rs vs β a e h) (hw : Sat β h w) (hk : opS P s e h K) : o.wpIn (Fr r) 0 P a w (After r N rs vs β a e o h w K) Q := by
  by_cases hp : isPure s = true
  · obtain ⟨v, hv, hk⟩ := opS_pure hp hk
    obtain ⟨h1, h2, h3⟩ := pure_sound (w := w) hs hr hv
    exact fin_pure hN hr hw h2 h1 h3 hk
  have hm := slimN_mem hs (by simpa using hp)
  obtain ⟨G, L, D⟩ := h
  cases hm with
  | @al d t i z ho hd hi hz =>
    have hrun : (execOp a.eval o).run P w = .ok (.value (.pointer (some ⟨w.heap.size, 0, none⟩))) (w.alloc (.cells z.cells t)) := by
      simp [execOp, ho, Instr.alloc, run_zero hi hz, newVar, newRow]
    refine fin_mem hN hr hd (nd ho rfl) hrun (h' := ⟨G, .blk w.heap.size z.cells.toList :: L, D⟩) (sat_add hw rfl rfl rfl (by simp) (fun b hb => heap_alloc_old w _ hb) ⟨t, by simpa using heap_alloc_new w _⟩ (fun b hb => by simp [Item.block] at hb; omega)) ?_ rfl
      (hk _ hw.fresh)
    intro s cs hs
    rcases List.mem_cons.1 hs with h | h
    · cases h
    · exact ⟨cs, h⟩
  | @bx d t x y ho hd hx =>
    have hrun : (execOp a.eval o).run P w = .ok (.value (.pointer (some ⟨w.heap.size, 0, none⟩))) (w.alloc (.cells (ev e y).cells t)) := by
      simp [execOp, ho, Instr.box, newVar, newRow, slO_ev hr hx]
    refine fin_mem hN hr hd (nd ho rfl) hrun (h' := ⟨G, .blk w.heap.size (cellsL (ev e y)) :: L, D⟩) (sat_add hw rfl rfl rfl (by simp) (fun b hb => heap_alloc_old w _ hb) ⟨t, by simpa [cellsL] using heap_alloc_new w _⟩ (fun b hb => by simp [Item.block] at hb; omega)) ?_ rfl
      (hk _ hw.fresh)
    intro s cs hs
    rcases List.mem_cons.1 hs with h | h
    · cases h
    · exact ⟨cs, h⟩
  | @ld d t x y n ho hd hx hn =>
    obtain ⟨v, hv, hk⟩ := hk
    exact fin_pure hN hr hw hd (nd ho rfl) (by simp only [execOp, ho, slO_ev hr hx, Sem.run_bind, run_loadAt hw hn hv, Result.andThen_ok]; rfl) hk
  | @cvS d src dst x y el ho hd hx hs1 ht1 he1 =>
    obtain ⟨s, hv, hk⟩ := hk
    exact fin_pure hN hr hw hd (nd ho rfl) (by simp only [execOp, ho, slO_ev hr hx, Sem.run_bind, cvS_run hs1 ht1 he1 hw hv, Result.andThen_ok]; rfl) hk
  | @st t x y u v i ho hd hx hu hi =>
    obtain ⟨L', hst, ⟨hlen, hone⟩, hk⟩ := hk
    generalize hcl : cellsL (ev e v) = xs at *
    have hone' : ∀ u ∈ xs, u.oneCell' = true := by simpa using hone
    have fin : ∀ {L1 L2 : List Item} {it it' : Item} {b off : Nat} {cs : List Value} {te : TypeId}, L = L1 ++ it :: L2 → L' = L1 ++ it' :: L2 → ev e y = .pointer (some ⟨b, off, none⟩) → w.heap[b]? = some (.cells cs.toArray te (0, 0)) → off + xs.length ≤ cs.length →
        it.block β = some b → it'.block β = some b → (∀ w' : World, w'.heap[b]? = some (.cells (splice cs off xs).toArray te (0, 0)) → it'.ok β w') → (∀ s cs, it' ≠ .reg s cs) → o.wpIn (Fr r) 0 P a w (After r N rs vs β a e o ⟨G, L, D⟩ w K) Q := by
      intro L1 L2 it it' b off cs te hL hL' hy hb hoff h1 h2 h3 h4
      subst hL
      subst hL'
      obtain ⟨w', e1, e2, e3, e4, e5, e6, e7⟩ := run_storeAt (P := P) (t := t) (y := ev e v) (o := off) hi hb (by rw [← hcl]; rfl) hlen hoff hone'
      have hrun : (execOp a.eval o).run P w = .ok .skip w' := by
        simp only [execOp, ho, slO_ev hr hx, slO_ev hr hu, hy, Sem.run_bind, e1, Result.andThen_ok]; rfl
      have sw := sat_swap (it' := it') hw e5 e6 e7 (by omega) (fun b' _ hne => e3 b' (fun he => hne (by rw [he, h1]))) (h3 w' e2) (fun b' hb' => .inl (by rw [h1, ← h2]; exact hb'))
      exact wp_skip' (nd ho rfl) hrun ⟨_, ⟨G, L1 ++ it' :: L2, D⟩, (hr.put' hd _).to (regs_append h4) rfl, sw.1, sw.2, by rw [hd]; exact ⟨fun _ _ => rfl, fun _ _ _ => rfl⟩, hk⟩
    generalize hyp : ev e y = yp at *
    cases hst with
    | @blk L1 b off cs xs L2 hoff =>
      obtain ⟨te, hte⟩ := hw.l (.blk b cs) (by simp)
      exact fin rfl rfl rfl hte hoff rfl rfl (fun w' hw' => ⟨te, hw'⟩) (fun _ _ hc => by cases hc)
    | @row L1 g off n' c e' sz n ys xs L2 hoff =>
      have hro : rowOk w (.slice (some ⟨g, 0, none⟩) n' c) e' sz n ys := hw.l (.row (.slice (some ⟨g, 0, none⟩) n' c) e' sz n ys) (by simp)
      obtain ⟨hl, hro⟩ := hro
      rcases hro with ⟨A, hA, rfl⟩ | ⟨g', cap, cur, hv, hc0, hg, hnc, hcm, hcs, htake⟩
      · have hys : ys = [] := List.eq_nil_of_length_eq_zero (by simpa using hl)
        subst hys
        have : xs = [] := by have h9 := hoff; simp at h9; exact h9.2
        subst this
        simp only [List.length_nil] at hlen
        have hrun : (execOp a.eval o).run P w = .ok .skip w := by
          have hl0 : (ev e v).cells.toList = [] := hcl
          have hl1 : (ev e v).cells.size = 0 := by have := congrArg List.length hl0; simpa using this
          simp only [execOp, ho, slO_ev hr hx, slO_ev hr hu, hyp, Sem.run_bind, Instr.storeAt, Instr.sureAddr, storeVar, Sem.run_pure, Result.andThen_ok, run_sizeOf hi, ← hlen, hl1, ne_eq, not_true_eq_false, if_false, hl0, storeCells]
        have : splice ([] : List Value) off [] = [] := by simp [splice]
        rw [this] at hk
        exact wp_skip' (nd ho rfl) hrun ⟨_, _, hr.put' hd _, hw, .refl _ _ _, by rw [hd]; exact ⟨fun _ _ => rfl, fun _ _ _ => rfl⟩, hk⟩
      · injection hv with hv1 hv2 hv3
        injection hv1 with hv1
        injection hv1 with hv1 _ _
        subst hv1
        subst hv2
        subst hv3
        have hc0' : ¬ c = 0 := by omega
        have hcul : cur.toList.length = c * sz := by simpa using hcs
        have hle : n' * sz ≤ c * sz := Nat.mul_le_mul_right _ hnc
        have hsp : (splice cur.toList off xs).toArray.size = c * sz ∧ (splice cur.toList off xs).toArray.toList.take (n' * sz) = splice ys off xs := by
          rw [hl] at hoff
          refine ⟨by simp [splice, hcul]; omega, ?_⟩
          rw [← htake]
          apply List.ext_getElem?
          intro j
          simp only [splice, List.getElem?_take, List.getElem?_append, List.getElem?_drop, List.length_append, List.length_take, hcul]
          have e1 : min off (c * sz) = off := by omega
          have e2 : min off (min (n' * sz) (c * sz)) = off := by omega
          simp only [e1, e2]
          by_cases hj : j < n' * sz
          · simp only [hj, if_true]
            by_cases h1 : j < off + xs.length
            · simp only [h1, if_true]
            · simp only [h1, if_false]
              rw [if_pos (by omega)]
          · simp only [hj, if_false]
            rw [if_neg (by omega), if_neg (by omega)]
        refine fin (b := g) (off := off) (cs := cur.toList) (te := e') rfl rfl rfl (by simpa using hg) (by rw [hcul]; rw [hl] at hoff; omega) (by simp [Item.block, rowBlock, hc0']) (by simp [Item.block, rowBlock, hc0']) (fun w' hw' => ?_) (fun _ _ hc => by cases hc)
        refine ⟨?_, .inr ⟨g, c, _, rfl, hc0, hw', hnc, hcm, hsp.1, hsp.2⟩⟩
        simp only [splice, List.length_append, List.length_take, List.length_drop]
        omega
  | @ixA d t x y j k el i ho hd hx hj ht hi =>
    simp only [opS] at hk
    split at hk
    · rename_i A n c kk jj hA hjj
      obtain ⟨⟨b1, b2⟩, ad, rfl, hk⟩ := hk
      refine fin_pure hN hr hw hd (nd ho rfl) ?_ hk
      simp [execOp, ho, slO_ev hr hx, slO_ev hr hj, hA, hjj, Instr.indexAt, asIntOf, run_underlying ht, b1, b2, run_sizeOf hi]
    · exact hk.elim
  | @sl d t x y lo hi mx lo' hi' mx' el i ho hd hx hl hh hmm hmh ht hi2 =>
    simp only [opS] at hk
    split at hk
    · rename_i A n c hA
      split at hk
      · rename_i l u m e1 e2 e3
        obtain ⟨hb, hk⟩ := hk
        refine fin_pure hN hr hw hd (nd ho rfl) ?_ hk
        have := slice_run (P := P) (w := w) (A := A) ht hi2 e1 e2 e3 hmh hb
        simp only [execOp, ho, slO_ev hr hx, slOo_bnd hr hl, slOo_bnd hr hh, slOo_bnd hr hmm, hA, Sem.run_bind, this, Result.andThen_ok]
        rfl
      · exact hk.elim
    · exact hk.elim
  | @bls d t n ps qs el i z ho hd ht hi hz hq hc =>
    simp only [opS] at hk
    split at hk
    · rename_i cs hcs
      obtain ⟨hlen, hk⟩ := hk
      have hc' : n ≠ 0 ∧ i.size ≠ 0 ∧ ¬ n * i.size > 2 ^ 24 := by omega
      have h0 : ¬ n * i.size = 0 := by
        intro hh
        rcases Nat.mul_eq_zero.1 hh with h | h
        · exact hc'.1 h
        · exact hc'.2.1 h
      have h1 := fill_run (fun j => some (j * i.size, i.size)) (ps.toList.map fun (p : Nat × Operand) => (p.1, a.eval p.2)) _ (zeros z.cells (n * i.size)) cs (slParts_ok hr _ ps.toList qs hq) hcs
      have hrun := run_buildSlice (P := P) w t el n (ps.map fun (i, x) => (i, a.eval x)) cs.toArray i z ht hi hz hc'.2.2 h0 (by rw [Array.toList_map]; rw [zeros, Array.toArray_toList] at h1; exact h1)
      have hpos : 1 ≤ i.size := by omega
      have hnm : n ≤ n * i.size := Nat.le_mul_of_pos_right n hpos
      refine fin_mem hN hr hd (nd ho rfl) (v := .slice (some ⟨w.heap.size, 0, none⟩) n n) (w' := w.alloc (.cells cs.toArray el)) (h' := ⟨G, .row (.slice (some ⟨w.heap.size, 0, none⟩) n n) el i.size n cs :: L, D⟩) ?_
        (sat_add hw rfl rfl rfl (by simp) (fun b hb => heap_alloc_old w _ hb) ⟨hlen, .inr ⟨w.heap.size, n, cs.toArray, rfl, by omega, heap_alloc_new w _, Nat.le_refl _, by unfold maxLen; omega, by simpa using hlen, by simp [← hlen]⟩⟩ (fun b hb => ?_)) ?_ rfl
        (hk _ hw.fresh)
      · simp only [execOp, ho, Sem.run_bind]
        rw [hrun]
        rfl
      · simp [Item.block, rowBlock, hc'.1] at hb; omega
      · intro s cs hs
        rcases List.mem_cons.1 hs with h | h
        · cases h
        · exact ⟨cs, h⟩
    · exact hk.elim
  | @bl0 d t ps el i ho hps hd ht hi =>
    have hps' : ps = #[] := Array.eq_empty_of_size_eq_zero hps
    have hrun : (execOp a.eval o).run P w = .ok (.value (.slice (some ⟨w.heap.size, 0, none⟩) 0 0)) (w.alloc (.cells #[] el)) := by
      simp [execOp, ho, hps', Instr.buildSlice, run_underlying ht, run_sizeOf hi, Instr.fill, newRow, show (Array.range 0) = #[] from rfl]
    refine fin_mem hN hr hd (nd ho rfl) hrun (h' := ⟨G, L, D⟩) (sat_change hw rfl rfl rfl (by simp) (fun b hb _ => heap_alloc_old w _ hb) (fun it hit => Item.ok_of (hw.l it hit) (fun b hb => heap_alloc_old w _ (Item.ok_lt (hw.l it hit) hb)) rfl) hw.nd' (fun b hb => .inl hb)) (fun s cs h => ⟨cs, h⟩) rfl (hk _ hw.fresh)
  | @call d c f xs ho hd hc hx => exact callsH_wp hN hr hw hd (nd ho rfl) (by simpa using call_run (cap := #[]) ho hr hc hx (by rfl) hk.1) hk
  | @cav d c n f xs ho hd hc hf hx => exact cavH_wp hN hr hw hd (nd ho rfl) ho hc hx (by rw [slO_ev hr hf]; exact hk)
  | @app d c x y t tx el i z ho hd hc hx ha ht hi hz hzs htx =>
    obtain ⟨L1, n, xs, L2, m, ys, hL, hsrc, ⟨hb1, hb2⟩, hk⟩ := hk
    dsimp only at hL
    obtain ⟨hw0, hst0, hsrc0, hrs⟩ : Sat β ⟨G, L1 ++ .row (ev e x) el i.size n xs :: L2, D⟩ w ∧ Step β ⟨G, L, D⟩ w β ⟨G, L1 ++ .row (ev e x) el i.size n xs :: L2, D⟩ w ∧ SrcH ⟨G, L1 ++ .row (ev e x) el i.size n xs :: L2, D⟩ (ev e y) i.size m ys ∧ ∀ s cs, Item.reg s cs ∈ L1 ++ .row (ev e x) el i.size n xs :: L2 → ∃ cs', Item.reg s cs' ∈ L := by
      rcases hL with hL | ⟨⟨A, hA⟩, h1, h2, h3, h4⟩
      · subst hL
        exact ⟨hw, .refl _ _ _, hsrc, fun s cs h => ⟨cs, h⟩⟩
      · subst h1 h2 h3 h4
        rw [hA]
        obtain ⟨a, b⟩ := sat_add (it := .row (.slice A 0 0) el i.size 0 []) hw rfl rfl rfl (Nat.le_refl _) (fun _ _ => rfl) ⟨by simp, .inl ⟨A, rfl, rfl⟩⟩ (fun b hb => by cases A <;> simp [Item.block, rowBlock] at hb)
        obtain ⟨q1, q2, q3⟩ := hsrc
        refine ⟨a, b, ⟨q1, q2, ?_⟩, fun s cs h => ⟨cs, by simpa using h⟩⟩
        rcases q3 with q3 | ⟨a', c', q4, q5⟩ | q3
        · exact .inl q3
        · refine .inr (.inl ⟨a', c', q4, fun j u hu => ?_⟩)
          exact (q5 j u hu).mono rfl fun it h => List.mem_cons_of_mem _ h
        · exact .inr (.inr q3)
    have hro : rowOk w (ev e x) el i.size n xs := hw0.l (.row (ev e x) el i.size n xs) (by simp)
    obtain ⟨A, cc, w', g1, g2, g3, g4, g5, g6, g7, g8⟩ := row_append (P := P) ht hi hz hzs hro (srcH_src hw0 htx hsrc0) hb2 hb1
    have hm : c.args.map a.eval = #[ev e x, ev e y] := by
      have := slOs_ev hr hx
      apply Array.ext'
      rw [Array.toList_map, this]
      rfl
    have ha' : c.argTypes = #[t, tx] := by apply Array.ext'; simpa using ha
    have hrun : (execOp a.eval o).run P w = .ok (.value (.slice A (n + m) cc)) w' := by
      simp only [execOp, ho, resolve, hc, hm, ha', Sem.run_bind, Sem.run_pure, Result.andThen_ok, invoke, builtin]
      have hg : ∀ ty, Builtin.append_ #[t, tx] ty #[ev e x, ev e y] = Builtin.append_ #[t, tx] t #[ev e x, ev e y] := fun ty => rfl
      simp only [hg o.type]
      rw [show Builtin.append_ #[t, tx] t #[ev e x, ev e y] = Builtin.append_ #[t, tx] _ #[ev e x, ev e y] from rfl, g1]
      rfl
    have hsw := sat_swap (it' := .row (.slice A (n + m) cc) el i.size (n + m) (xs ++ ys)) hw0 g3 g4 g5 g6 (fun b hb hne => g7 b hb hne) g2 (fun b hb => g8 b hb)
    exact fin_mem hN hr hd (nd ho rfl) hrun (h' := ⟨G, L1 ++ .row (.slice A (n + m) cc) el i.size (n + m) (xs ++ ys) :: L2, D⟩) ⟨hsw.1, hst0.trans hsw.2⟩
      (RegSub.trans (b := ⟨G, L1 ++ .row (ev e x) el i.size n xs :: L2, D⟩) hrs (regs_append (fun _ _ hc => by cases hc))) rfl (hk A cc)
end sound
end Go.Kx
