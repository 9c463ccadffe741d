/- The seventh text of the small logic: each operation does what it asks. No condition. -/
import Derived.Test.YtdiccicokbbcoaaK6
import Derived.Great.BuildSlice
set_option linter.unusedSimpArgs false
set_option linter.unusedVariables false
namespace Go.Kx
open Go Go.RowKit

section sound
variable {r : Option Nat} {P : Program} {N : Nat} {rs vs : List Nat} {β : Nat → Nat} {a : Act} {w : World} {e : Env} {h : H} {o : Oper} {K : Env → H → Prop} {Q : Exit → Act → World → Prop} {s : SOp} {d : Nat}

/-- What stands behind an operation. -/
def After (r : Option Nat) (N : Nat) (rs vs : List Nat) (β : Nat → Nat) (a : Act) (e : Env) (o : Oper) (h : H) (w : World) (K : Env → H → Prop) : Act → World → Prop :=
  fun a' w' => ∃ e' h', Rel r N rs vs β a' e' h' ∧ Sat β h' w' ∧ Step β h w β h' w' ∧ ((∀ i ∈ vs, a'.tmps.getD i undef = a.tmps.getD i undef) ∧ ∀ i, i < 99999 → o.dst ≠ some i → e' i = e i) ∧ K e' h'
theorem put_keeps (hd : dstN vs o = some d) (v : Value) : (∀ i ∈ vs, (a.put o.dst v).tmps.getD i undef = a.tmps.getD i undef) ∧ ∀ i, i < 99999 → o.dst ≠ some i → (e.set d v) i = e i := by
  unfold dstN at hd
  split at hd
  · rename_i ho
    cases hd
    rw [ho]
    refine ⟨fun _ _ => rfl, ?_⟩
    intro i hi _
    simp only [Env.set]
    split
    · rename_i he; exact absurd hi (by rw [he]; exact Nat.lt_irrefl _)
    · rfl
  · rename_i d' ho
    split at hd
    · cases hd
    · rename_i hv
      cases hd
      rw [ho]
      refine ⟨fun i hi => ?_, fun i _ hne => ?_⟩
      · have hne : ¬ d = i := fun he => hv (by subst he; simpa using hi)
        simp only [Act.put, Array.getD_eq_getD_getElem?, Array.getElem?_setIfInBounds]
        rw [if_neg hne]
      · simp only [Env.set]
        rw [if_neg (fun he => hne (by rw [he]))]

theorem fin_pure (hN : N ≤ 99999) (hr : Rel r N rs vs β a e h) (hw : Sat β h w) (hd : dstN vs o = some d) (hdef : nodefer o) {v : Value} (hrun : (execOp a.eval o).run P w = .ok (.value v) w) (hk : K (e.set d v) h) :
    o.wpIn (Fr r) 0 P a w (After r N rs vs β a e o h w K) Q :=
  wp_value hdef hrun ⟨_, _, hr.put hN hd v, hw, .refl _ _ _, put_keeps hd v, hk⟩
theorem fin_mem (hN : N ≤ 99999) (hr : Rel r N rs vs β a e h) (hd : dstN vs o = some d) (hdef : nodefer o) {v : Value} {w' : World} {h' : H} (hrun : (execOp a.eval o).run P w = .ok (.value v) w')
    (hw : Sat β h' w' ∧ Step β h w β h' w') (hL : ∀ s cs, Item.reg s cs ∈ h'.L → ∃ cs', Item.reg s cs' ∈ h.L) (hD : h'.D = h.D) (hk : K (e.set d v) h') :
    o.wpIn (Fr r) 0 P a w (After r N rs vs β a e o h w K) Q :=
  wp_value hdef hrun ⟨_, _, (hr.put hN hd v).to hL hD, hw.1, hw.2, put_keeps hd v, hk⟩

theorem call_run {c : Call} (ho : o.op = .call c) {f : Operand} {xs : List O} (hr : Rel r N rs vs β a e h) (hc : c.callee = .value f) (hxs : slOs vs N c.args.toList = some xs) {g : Nat} {cap : Array Value} (hf : a.eval f = .func (.func g) #[] cap)
    (hE : Enters P g) : (execOp a.eval o).run P w = .ok (.enter g ((xs.map (ev e)).toArray ++ cap)) w := by
  have hm : c.args.map a.eval = (xs.map (ev e)).toArray := by
    have := slOs_ev hr hxs
    apply Array.ext'
    rw [Array.toList_map, this]
  simp only [execOp, ho, resolve, hc, hm, hf, Deferred.ofValue, Sem.run_bind, Sem.run_pure, Result.andThen_ok, invoke, Array.empty_append]
  exact hE _ _

theorem callsH_wp (hN : N ≤ 99999) (hr : Rel r N rs vs β a e h) (hw : Sat β h w) (hd : dstN vs o = some d) (hdef : nodefer o) {g : Nat} {args : Array Value} (hrun : (execOp a.eval o).run P w = .ok (.enter g args) w)
    (hk : CallsH P g args h fun v h' => K (e.set d v) h') : o.wpIn (Fr r) 0 P a w (After r N rs vs β a e o h w K) Q := by
  refine wp_enter hdef hrun ((hk.2 β w hw).mono ?_)
  rintro x w' ⟨v, h', rfl, ⟨hD, hR⟩, hs, st, hk⟩
  exact ⟨v, rfl, _, _, (hr.put hN hd v).to hR hD, hs, st, put_keeps hd v, hk⟩
theorem cavH_wp (hN : N ≤ 99999) (hr : Rel r N rs vs β a e h) (hw : Sat β h w) (hd : dstN vs o = some d) (hdef : nodefer o) {c : Call} (ho : o.op = .call c) {f : Operand} {xs : List O} (hc : c.callee = .value f) (hxs : slOs vs N c.args.toList = some xs)
    (hk : CavH P (a.eval f) (xs.map (ev e)).toArray h fun v h' => K (e.set d v) h') : o.wpIn (Fr r) 0 P a w (After r N rs vs β a e o h w K) Q := by
  rcases hk with ⟨g, cap, hf, hk⟩ | ⟨l, hf, hk⟩
  · exact callsH_wp hN hr hw hd hdef (call_run ho hr hc hxs hf hk.1) hk
  · obtain ⟨fn, tmps, assign, body, hy, hR⟩ := hk β w hw
    have hm : c.args.map a.eval = (xs.map (ev e)).toArray := by
      have := slOs_ev hr hxs
      apply Array.ext'
      rw [Array.toList_map, this]
    refine wp_round (w' := w) hdef (l := l) (f := fn) (tmps := tmps) (assign := assign) (body := body) ?_ (hR.mono ?_)
    · simp only [execOp, ho, resolve, hc, hm, hf, Deferred.ofValue, Sem.run_bind, Sem.run_pure, Result.andThen_ok, invoke, Array.empty_append]
      exact hy
    · rintro x w' ⟨v, h', rfl, ⟨hD, hR⟩, hs, st, hk⟩
      exact ⟨v, rfl, _, _, (hr.put hN hd v).to hR hD, hs, st, put_keeps hd v, hk⟩

theorem run_typeInfo {t : TypeId} {i : TypeInfo} (hi : P.info? t = some i) (w : World) : (typeInfo t).run P w = .ok i w := by simp [typeInfo, hi]
theorem run_sizeOf {t : TypeId} {i : TypeInfo} (hi : P.info? t = some i) (w : World) : (sizeOf t).run P w = .ok i.size w := by simp [sizeOf, typeInfo, hi]
theorem run_zero {t : TypeId} {i : TypeInfo} {z : Value} (hi : P.info? t = some i) (hz : i.zero = some z) (w : World) : (zeroValue t).run P w = .ok z w := by simp [zeroValue, typeInfo, hi, hz]
theorem run_isAgg {t : TypeId} {n : Option Nat} (hn : aggN P t = some n) (w : World) : (isAgg t).run P w = .ok n.isSome w ∧ ∃ i, P.info? t = some i ∧ ∀ k, n = some k → k = i.size := by
  unfold aggN at hn
  split at hn
  · rename_i i hu hi
    cases hn
    exact ⟨by simp [isAgg, run_underlying hu], i, hi, fun k hk => by injection hk with hk; exact hk.symm⟩
  · rename_i i hu hi
    cases hn
    exact ⟨by simp [isAgg, run_underlying hu], i, hi, fun k hk => by injection hk with hk; exact hk.symm⟩
  · rename_i d i hd1 hd2 hu hi
    split at hn
    · cases hn
      refine ⟨?_, i, hi, fun k hk => by cases hk⟩
      simp only [isAgg, Sem.run_bind, run_underlying hu, Result.andThen_ok]
      cases d <;> first | rfl | exact absurd rfl (hd1 _ _ ‹_›) | skip
      all_goals simp_all
    · cases hn
  · cases hn

def isDefer : Op → Bool
  | .defer _ => true
  | _ => false
theorem nd {x : Op} (ho : o.op = x) (hx : isDefer x = false) : nodefer o := fun c hc => by rw [ho] at hc; subst hc; cases hx

theorem slice_nil_run {t el : TypeId} {A : Option Addr} {n c : Nat} (hu : P.underlying t = some (.slice el)) : (Op.equalIn Op.maxDepth t (.slice A n c) (.slice none 0 0)).run P w = .ok A.isNone w := by
  show (Op.equalIn (9999 + 1) t (.slice A n c) (.slice none 0 0)).run P w = .ok A.isNone w
  generalize 9999 = dd
  cases A <;> simp only [Op.equalIn, Sem.run_bind, run_underlying hu, Result.andThen_ok] <;> rfl
set_option maxHeartbeats 1000000 in
/-- The pure ones. -/
theorem pure_sound (hs : slimN P N vs o = some s) (hr : Rel r N rs vs β a e h) {v : Value} (hv : pureV s e = some v) : nodefer o ∧ dstN vs o = some (dstS s) ∧ (execOp a.eval o).run P w = .ok (.value v) w := by
  unfold slimN at hs
  simp only [Option.bind_eq_some_iff] at hs
  obtain ⟨d, hd, hs⟩ := hs
  cases ho : o.op <;> simp only [ho] at hs <;> try (cases hs; done)
  case move x =>
    simp only [Option.map_eq_some_iff] at hs
    obtain ⟨y, hy, rfl⟩ := hs
    simp only [pureV, Option.some.injEq] at hv
    subst hv
    exact ⟨nd ho rfl, hd, by simp [execOp, ho, slO_ev hr hy]⟩
  case assign x =>
    simp only [Option.map_eq_some_iff] at hs
    obtain ⟨y, hy, rfl⟩ := hs
    simp only [pureV, Option.some.injEq] at hv
    subst hv
    exact ⟨nd ho rfl, hd, by simp [execOp, ho, slO_ev hr hy]⟩
  case pick c x y =>
    simp only [Option.bind_eq_some_iff, Option.map_eq_some_iff] at hs
    obtain ⟨c', hc, x', hx, y', hy, rfl⟩ := hs
    simp only [pureV, pickO] at hv
    split at hv
    · rename_i t ht
      cases hv
      exact ⟨nd ho rfl, hd, by simp [execOp, ho, slO_ev hr hx, slO_ev hr hy, slO_ev hr hc, ht, asBool, pickV_eq]⟩
    · cases hv
  case binOp op t x y ty =>
    simp only [Option.bind_eq_some_iff] at hs
    obtain ⟨x', hx, y', hy, hs⟩ := hs
    have hbin : ∀ v, binV op (ev e x') (ev e y') = some v → (execOp a.eval o).run P w = .ok (.value v) w := by
      intro v hb
      have hg : (eqGuard op t x y (ev e x') (ev e y')).run P w = .ok () w := by
        unfold binV at hb
        split at hb
        · rename_i h1 h2; rw [h1, h2]; simp only [eqGuard]; cases op <;> rfl
        · rename_i h1 h2; rw [h1, h2]; simp only [eqGuard]; cases op <;> rfl
        · cases hb
      simp only [execOp, ho, slO_ev hr hx, slO_ev hr hy, Sem.run_bind, hg, Result.andThen_ok, binV_run w hb]
      rfl
    split at hs
    · cases hs; exact ⟨nd ho rfl, hd, hbin v hv⟩
    · cases hs; exact ⟨nd ho rfl, hd, hbin v hv⟩
    · rename_i hu
      simp only [Option.map_eq_some_iff] at hs
      obtain ⟨ne, hne, rfl⟩ := hs
      refine ⟨nd ho rfl, hd, ?_⟩
      simp only [pureV, eqbV] at hv
      split at hv
      · rename_i p q hp hq
        cases hv
        have he := run_equalIn_bool' (P := P) w 9999 t p q hu
        cases op <;> simp only at hne <;> cases hne <;>
          simp [execOp, ho, slO_ev hr hx, slO_ev hr hy, hp, hq, eqGuard, binOp, Op.equal, Op.maxDepth, he]
      · cases hv
    · rename_i fs hu
      simp only [Option.bind_eq_some_iff] at hs
      obtain ⟨ne, hne, ks, hks, hs⟩ := hs
      split at hs
      · rename_i hst
        cases hs
        refine ⟨nd ho rfl, hd, ?_⟩
        simp only [pureV, eqfV] at hv
        split at hv
        · rename_i xs ys hp hq
          simp only [Option.map_eq_some_iff] at hv
          obtain ⟨t', ht', rfl⟩ := hv
          have hf : P.fieldsOf t = fs := by simp [Program.fieldsOf, hu]
          have h1 := eqC_run (P := P) 9998 xs.toList ys.toList w fs.toList ks 0 t' hks (by simpa using ht')
          have h2 := run_equalIn_struct (P := P) w 9999 t xs ys (by rw [hf]; exact hu) hst.1
          rw [hf] at h2
          have h3 : (Op.equalIn 10000 t (.agg xs) (.agg ys)).run P w = .ok t' w := by rw [h2]; simpa using h1
          have hg : (eqGuard op t x y (.agg xs) (.agg ys)).run P w = .ok () w := by
            unfold eqGuard
            cases op <;> simp only at hne <;> cases hne <;> simp [program, Sem.run, hst.2, bind, Sem.bind, pure]
          simp only [execOp, ho, Sem.run_bind, slO_ev hr hx, slO_ev hr hy, hp, hq, hg, Result.andThen_ok]
          cases op <;> simp only at hne <;> cases hne <;> simp [binOp, Op.equal, Op.maxDepth, h3]
        · cases hv
      · cases hs
    · rename_i n el hu
      simp only [Option.bind_eq_some_iff] at hs
      obtain ⟨ne, hne, hs⟩ := hs
      split at hs
      · rename_i kk i hel hi
        split at hs
        · rename_i hst
          cases hs
          refine ⟨nd ho rfl, hd, ?_⟩
          simp only [pureV, eqfV] at hv
          split at hv
          · rename_i xs ys hp hq
            simp only [Option.map_eq_some_iff] at hv
            obtain ⟨t', ht', rfl⟩ := hv
            have h1 := eqI_run (P := P) 9998 xs ys w hel (List.range n) 0 t' (by simp [List.range_eq_range']) (by simpa using ht')
            have h2 := run_equalIn_array (P := P) w 9999 xs ys hu hi
            rw [hst.1] at h2
            have h3 : (Op.equalIn 10000 t (.agg xs) (.agg ys)).run P w = .ok t' w := by rw [h2]; exact h1
            have hg : (eqGuard op t x y (.agg xs) (.agg ys)).run P w = .ok () w := by
              unfold eqGuard
              cases op <;> simp only at hne <;> cases hne <;> simp [program, Sem.run, hst.2, bind, Sem.bind, pure]
            simp only [execOp, ho, Sem.run_bind, slO_ev hr hx, slO_ev hr hy, hp, hq, hg, Result.andThen_ok]
            cases op <;> simp only at hne <;> cases hne <;> simp [binOp, Op.equal, Op.maxDepth, h3]
          · cases hv
        · cases hs
      · cases hs
    · split at hs
      · rename_i hsl
        obtain ⟨el, hu⟩ : ∃ el, P.underlying t = some (.slice el) := by
          cases hq : P.underlying t with
          | none => rw [hq] at hsl; cases hsl
          | some dd => rw [hq] at hsl; cases dd <;> first | exact ⟨_, rfl⟩ | cases hsl
        simp only [Option.bind_eq_some_iff] at hs
        obtain ⟨ne, hne, hs⟩ := hs
        split at hs
        · rename_i hyv
          cases hs
          refine ⟨nd ho rfl, hd, ?_⟩
          simp only [pureV, isnV] at hv
          split at hv
          · rename_i A n c hA
            cases hv
            have hy2 : a.eval y = .slice none 0 0 := slO_ev hr hy
            have he := slice_nil_run (P := P) (w := w) (A := A) (n := n) (c := c) hu
            have hg : (eqGuard op t x y (.slice A n c) (.slice none 0 0)).run P w = .ok () w := by
              simp only [eqGuard]; cases op <;> rfl
            simp only [execOp, ho, slO_ev hr hx, hy2, hA, Sem.run_bind, hg, Result.andThen_ok]
            cases op <;> simp only at hne <;> cases hne <;>
              simp only [binOp, Op.equal, Sem.run_bind, he, Result.andThen_ok, Sem.run_pure] <;> cases A <;> rfl
          · cases hv
        · cases hs
      · cases hs
  case unOp op ty x =>
    simp only [Option.map_eq_some_iff] at hs
    obtain ⟨x', hx, rfl⟩ := hs
    simp only [pureV] at hv
    refine ⟨nd ho rfl, hd, ?_⟩
    simp only [execOp, ho, slO_ev hr hx, Sem.run_bind, unV_run w hv, Result.andThen_ok]
    rfl
  case convert src dst x =>
    simp only [Option.bind_eq_some_iff] at hs
    obtain ⟨x', hx, hs⟩ := hs
    split at hs
    · rename_i k0 k h1 h2
      cases hs
      simp only [pureV, cvI] at hv
      split at hv
      · rename_i kk n hn
        cases hv
        exact ⟨nd ho rfl, hd, by simp [execOp, ho, slO_ev hr hx, hn, convert, run_underlying h1, run_underlying h2, Conv.intToInt]⟩
      · cases hv
    · split at hs
      · cases hs; simp [pureV] at hv
      · cases hs
    · cases hs
  case extract x i =>
    simp only [Option.map_eq_some_iff] at hs
    obtain ⟨x', hx, rfl⟩ := hs
    simp only [pureV, extV] at hv
    split at hv
    · rename_i xs hxs
      have hv' : xs[i]? = some v := by simpa using hv
      exact ⟨nd ho rfl, hd, by simp [execOp, ho, slO_ev hr hx, hxs, Instr.extract, hv']⟩
    · cases hv
  case field t x f =>
    simp only [Option.bind_eq_some_iff] at hs
    obtain ⟨x', hx, hs⟩ := hs
    split at hs
    · rename_i fs hu
      simp only [Option.bind_eq_some_iff, Option.map_eq_some_iff] at hs
      obtain ⟨fd, hfd, n, hn, rfl⟩ := hs
      simp only [pureV, fldV] at hv
      obtain ⟨hagg, i, hi, hk⟩ := run_isAgg hn w
      refine ⟨nd ho rfl, hd, ?_⟩
      split at hv
      · rename_i cs hcs
        cases n with
        | none =>
          have hv' : cs[fd.offset]? = some v := by simpa using hv
          simp [execOp, ho, slO_ev hr hx, hcs, Instr.field, run_underlying hu, hfd, asAgg, part, hagg, hv']
        | some k =>
          simp only [Option.some.injEq] at hv
          subst hv
          have := hk k rfl
          simp [execOp, ho, slO_ev hr hx, hcs, Instr.field, run_underlying hu, hfd, asAgg, part, hagg, run_sizeOf hi, ← this]
          apply Array.ext'
          simp
      · cases hv
    · cases hs
  case build t ps =>
    have key : ∀ (place : Nat → Option (Nat × Nat)) (z : Value) (qs : List (Nat × Nat × O)), slParts vs N place ps.toList = some qs → (∀ pv c, Instr.fill place z.cells pv = some c → P.built t pv = some c) → s = .bld d z.cells.toList qs →
        nodefer o ∧ dstN vs o = some (dstS s) ∧ (execOp a.eval o).run P w = .ok (.value v) w := by
      rintro place z qs hqs hb rfl
      simp only [pureV, Option.map_eq_some_iff] at hv
      obtain ⟨cs, hcs, rfl⟩ := hv
      refine ⟨nd ho rfl, hd, ?_⟩
      have h1 := fill_run place (ps.toList.map fun (p : Nat × Operand) => (p.1, a.eval p.2)) _ z.cells.toList cs (slParts_ok hr place ps.toList qs hqs) hcs
      have h2 := hb _ _ (by simpa using h1)
      have h3 := run_build (P := P) w t (ps.map fun (i, x) => (i, a.eval x)) cs.toArray (by rw [Array.toList_map]; exact h2)
      simp only [execOp, ho, Sem.run_bind, h3, Result.andThen_ok]
      rfl
    split at hs
    · rename_i fs z hu hz
      obtain ⟨i, hi, hz⟩ := Option.bind_eq_some_iff.1 hz
      simp only [Option.bind_eq_some_iff, Option.map_eq_some_iff] at hs
      obtain ⟨pl, hpl, qs, hqs, rfl⟩ := hs
      exact key _ z qs hqs (fun pv c hc => by simp only [Program.built, hi, hu, hz, hpl]; exact hc) rfl
    · rename_i n el z hu hz
      obtain ⟨i, hi, hz⟩ := Option.bind_eq_some_iff.1 hz
      simp only [Option.bind_eq_some_iff, Option.map_eq_some_iff] at hs
      obtain ⟨ie, hie, qs, hqs, rfl⟩ := hs
      exact key _ z qs hqs (fun pv c hc => by simp only [Program.built, hi, hu, hz, hie]; exact hc) rfl
    · cases hs
  case makeFunc fn first cs =>
    split at hs
    · rename_i hf
      simp only [Option.map_eq_some_iff] at hs
      obtain ⟨ys, hys, rfl⟩ := hs
      simp only [pureV, Option.some.injEq] at hv
      subst hv
      have hm : cs.map a.eval = (ys.map (ev e)).toArray := by
        apply Array.ext'
        rw [Array.toList_map, slOs_ev hr hys]
      have hf' : first = #[] := Array.eq_empty_of_size_eq_zero hf
      exact ⟨nd ho rfl, hd, by simp [execOp, ho, Instr.makeFunc, hm, hf']⟩
    · cases hs
  case nilCheck x =>
    simp only [Option.map_eq_some_iff] at hs
    obtain ⟨x', hx, rfl⟩ := hs
    simp only [pureV, nckV] at hv
    refine ⟨nd ho rfl, hd, ?_⟩
    split at hv
    · rename_i ad had; cases hv; simp [execOp, ho, slO_ev hr hx, had]
    · rename_i g p q had; cases hv; simp [execOp, ho, slO_ev hr hx, had]
    · cases hv
  case fieldAddr t x f =>
    simp only [Option.bind_eq_some_iff] at hs
    obtain ⟨x', hx, hs⟩ := hs
    split at hs
    · rename_i fs hu
      simp only [Option.bind_eq_some_iff] at hs
      obtain ⟨fd, hfd, i, hi, hs⟩ := hs
      split at hs
      · cases hs
      · rename_i hne
        cases hs
        simp only [pureV, flaV] at hv
        refine ⟨nd ho rfl, hd, ?_⟩
        split at hv
        · rename_i ad had
          cases hv
          simp [execOp, ho, slO_ev hr hx, had, Instr.fieldAt, run_underlying hu, hfd, Instr.sureAddr, fieldPlace, run_sizeOf hi, hne]
        · cases hv
    · cases hs
  case indexAddr t x i =>
    simp only [Option.bind_eq_some_iff] at hs
    obtain ⟨x', hx, i', hi', hs⟩ := hs
    split at hs
    · simp only [Option.map_eq_some_iff] at hs; obtain ⟨_, _, rfl⟩ := hs; simp [pureV] at hv
    · rename_i n el hu
      simp only [Option.map_eq_some_iff] at hs
      obtain ⟨k, hk, rfl⟩ := hs
      simp only [pureV, ixPV] at hv
      split at hv
      · rename_i ad kk j h1 h2
        split at hv
        · rename_i hb
          cases hv
          refine ⟨nd ho rfl, hd, ?_⟩
          simp [execOp, ho, slO_ev hr hx, slO_ev hr hi', h1, h2, Instr.indexAt, asIntOf, run_underlying hu, Instr.sureAddr, hb.1, hb.2, run_sizeOf hk]
        · cases hv
      · cases hv
    · cases hs
  case index t x i =>
    simp only [Option.bind_eq_some_iff] at hs
    obtain ⟨x', hx, i', hi', hs⟩ := hs
    split at hs
    · rename_i n el hu
      simp only [Option.bind_eq_some_iff, Option.map_eq_some_iff] at hs
      obtain ⟨k, hk, m, hm, rfl⟩ := hs
      simp only [pureV, ixVV] at hv
      obtain ⟨hagg, i0, hi0, hk0⟩ := run_isAgg hm w
      rw [hk] at hi0
      cases hi0
      split at hv
      · rename_i cs kk j h1 h2
        split at hv
        · rename_i hb
          refine ⟨nd ho rfl, hd, ?_⟩
          simp only [fldV] at hv
          cases m with
          | none =>
            have hv' : cs[j.toNat * k.size]? = some v := by simpa using hv
            simp [execOp, ho, slO_ev hr hx, slO_ev hr hi', h1, h2, Instr.index, asIntOf, run_underlying hu, hb.1, hb.2, run_sizeOf hk, part, hagg, hv']
          | some q =>
            simp only [Option.some.injEq] at hv
            subst hv
            have := hk0 q rfl
            simp [execOp, ho, slO_ev hr hx, slO_ev hr hi', h1, h2, Instr.index, asIntOf, run_underlying hu, hb.1, hb.2, run_sizeOf hk, part, hagg, ← this]
            apply Array.ext'
            simp
        · cases hv
      · cases hv
    · cases hs
  case call c =>
    simp only [Option.bind_eq_some_iff] at hs
    obtain ⟨xs, hxs, hs⟩ := hs
    have hm : c.args.map a.eval = (xs.map (ev e)).toArray := by
      have := slOs_ev hr hxs
      apply Array.ext'
      rw [Array.toList_map, this]
    refine ⟨nd ho rfl, ?_⟩
    split at hs
    · cases hs; simp [pureV] at hv
    · simp only [Option.map_eq_some_iff] at hs; obtain ⟨_, _, rfl⟩ := hs; simp [pureV] at hv
    · rename_i hc
      split at hs
      · rename_i x t ht
        simp only [Option.map_eq_some_iff] at hs
        obtain ⟨u, hu, rfl⟩ := hs
        refine ⟨hd, ?_⟩
        simp only [pureV] at hv
        have ht' : c.argTypes = #[t] := by apply Array.ext'; simpa using ht
        split at hu
        · rename_i el hel
          cases hu
          unfold lenV at hv
          split at hv
          · rename_i A n cc hA
            cases hv
            simp [execOp, ho, resolve, hc, hm, invoke, builtin, Builtin.len_, ht', hA, run_underlying hel, goInt]
          · contradiction
          · cases hv
        · rename_i hel
          cases hu
          unfold lenV at hv
          split at hv
          · contradiction
          · rename_i ss hA
            cases hv
            simp [execOp, ho, resolve, hc, hm, invoke, builtin, Builtin.len_, ht', hA, run_underlying hel, goInt]
          · cases hv
        · cases hu
      · cases hs
    · rename_i hc
      split at hs
      · cases hs
        refine ⟨hd, ?_⟩
        rename_i x y
        simp only [pureV, mmV] at hv
        split at hv
        · rename_i k p k' q hp hq
          cases hv
          simp [execOp, ho, resolve, hc, hm, invoke, builtin, Builtin.max_, hp, hq, Builtin.max2]
        · cases hv
      · cases hs
    · rename_i hc
      split at hs
      · cases hs
        refine ⟨hd, ?_⟩
        rename_i x y
        simp only [pureV, mmV] at hv
        split at hv
        · rename_i k p k' q hp hq
          cases hv
          simp [execOp, ho, resolve, hc, hm, invoke, builtin, Builtin.min_, hp, hq, Builtin.min2]
        · cases hv
      · cases hs
    · split at hs
      · split at hs
        · simp only [Option.bind_eq_some_iff] at hs
          obtain ⟨_, _, _, _, hs⟩ := hs
          split at hs
          · simp only [Option.map_eq_some_iff] at hs; obtain ⟨_, _, rfl⟩ := hs; simp [pureV] at hv
          · cases hs
        · cases hs
      · cases hs
    · cases hs
  all_goals exfalso
  case alloc t => simp only [Option.map_eq_some_iff] at hs; obtain ⟨_, _, rfl⟩ := hs; simp [pureV] at hv
  case box t x => simp only [Option.map_eq_some_iff] at hs; obtain ⟨_, _, rfl⟩ := hs; simp [pureV] at hv
  case load t x => simp only [Option.bind_eq_some_iff, Option.map_eq_some_iff] at hs; obtain ⟨_, _, _, _, rfl⟩ := hs; simp [pureV] at hv
  case store t x y =>
    split at hs
    · simp only [Option.bind_eq_some_iff, Option.map_eq_some_iff] at hs; obtain ⟨_, _, _, _, _, _, rfl⟩ := hs; simp [pureV] at hv
    · cases hs
  case slice t x lo hi mx =>
    simp only [Option.bind_eq_some_iff] at hs
    obtain ⟨_, _, _, _, _, _, _, _, hs⟩ := hs
    split at hs
    · split at hs
      · cases hs
      · simp only [Option.map_eq_some_iff] at hs; obtain ⟨_, _, rfl⟩ := hs; simp [pureV] at hv
    · cases hs
  case buildSlice t n ps =>
    split at hs
    · simp only [Option.bind_eq_some_iff] at hs
      obtain ⟨_, _, _, _, _, _, hs⟩ := hs
      split at hs
      · cases hs; simp [pureV] at hv
      · split at hs
        · cases hs
        · cases hs; simp [pureV] at hv
    · cases hs
end sound
end Go.Kx
