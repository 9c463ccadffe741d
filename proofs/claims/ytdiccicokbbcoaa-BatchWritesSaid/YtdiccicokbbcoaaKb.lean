/- The eleventh text of the small logic: regions whose order is open. No condition. -/
import Derived.Test.YtdiccicokbbcoaaKa
set_option linter.unusedSimpArgs false
set_option linter.unusedVariables false
namespace Go.Kx
open Go Go.RowKit

section any
variable {r : Option Nat} {P : Program} {md : Region.Mode} {ops : Array Oper} {C : World → Prop}
theorem wpIn_of_quiet {o : Oper} {a : Act} {K : Act → Prop} {K' : Act → World → Prop} {Q' : Exit → Act → World → Prop} {w : World} (hd : nodefer o) (hw : C w) (h : ∀ a w', C w' → K a → K' a w') (hh : o.quiet P a C K) : o.wpIn (Fr r) 0 P a w K' Q' := by
  obtain ⟨v, h1, h2⟩ := hh
  have h3 := h1 w hw
  unfold Oper.quietAt at h3
  refine ⟨fun _ _ => trivial, ?_⟩
  rw [Oper.semAt_eq _ _ _ hd]
  generalize (execOp a.eval o).run P w = res at *
  cases res with
  | ok n w' =>
    cases n <;> simp only [Oper.quietUpon] at h3 <;> simp only [Oper.uponIn]
    case value u =>
      obtain ⟨e1, e2⟩ := h3
      rw [e1, e2]
      exact h _ _ hw h2
    case skip =>
      obtain ⟨e1, e2⟩ := h3
      rw [e1, ← e2]
      exact h _ _ hw h2
    case enter f args =>
      obtain ⟨e1, hc⟩ := h3
      rw [e1]
      exact ⟨fun hh => by simp [Fr, Fence.wide] at hh, (calls_fr hc).mono fun e w'' ⟨he, hw''⟩ => by subst he; exact h _ _ hw'' h2⟩
  | halt x w' => simp only [Oper.quietUpon] at h3
theorem wpOpIn_of_qOp {i : Nat} {a : Act} {K : Act → Prop} {K' : Act → World → Prop} {Q' : Exit → Act → World → Prop} {w : World} (hd : ∀ (j : Nat) (o : Oper), ops[j]? = some o → nodefer o) (hC : C w) (h : ∀ a w', C w' → K a → K' a w') (hh : qOp P ops C i K a) : wpOpIn (Fr r) 0 P ops Q' i K' a w := by
  unfold qOp at hh
  unfold wpOpIn
  split
  · rename_i ho; simp only [ho] at hh; exact h _ _ hC hh
  · rename_i o ho
    simp only [ho] at hh
    split
    · rename_i hw; simp only [hw, if_true] at hh; exact wpIn_of_quiet (hd _ _ ho) hC h hh
    · rename_i hw; simp only [hw] at hh; exact ⟨fun _ _ => trivial, h _ _ hC hh⟩
theorem wpAnyIn_of_quiet {Q : Act → Prop} {Q' : Exit → Act → World → Prop} (hd : ∀ (j : Nat) (o : Oper), ops[j]? = some o → nodefer o) (hQ : ∀ a w, C w → Q a → Q' .normal a w) : ∀ (fuel : Nat) (listed : Array Bool) (a : Act) (w : World), C w →
    wpAnyQ P md ops C Q fuel listed a → wpAnyIn (Fr r) 0 P md ops Q' fuel listed a w
  | 0, _, _, _, hw, h => ⟨h.1, hQ _ _ hw h.2⟩
  | fuel + 1, _, _, _, hw, h => ⟨fun h0 => hQ _ _ hw (h.1 h0), fun i hi => wpOpIn_of_qOp hd hw (fun a' w' hw' => wpAnyIn_of_quiet hd hQ fuel _ a' w' hw') (h.2 i hi)⟩
end any

section quiet
variable {r : Option Nat} {P : Program} {N : Nat} {rs vs : List Nat} {β : Nat → Nat} {a : Act} {w : World} {e : Env} {h : H} {o : Oper} {K : Env → Prop} {s : SOp} {d : Nat} {m m' : List ME} {g : Option (Nat × Bool)} {c : Option Nat} {C : World → Prop}

def AfterQ (r : Option Nat) (N : Nat) (rs vs : List Nat) (β : Nat → Nat) (h : H) (m : List ME) (K : Env → Prop) : Act → Prop :=
  fun a' => ∃ e', Rel r N rs vs β a' e' h ∧ MapOk N rs vs β a' e' m ∧ K e'

theorem opN_quiet (hs : slimN P N vs o = some s) (hN : N ≤ 99999) (hr : Rel r N rs vs β a e h) (hC : ∀ w, C w → Sat β h w) (hCs : ∀ w w', C w → Sat β h w' → Step β h w β h w' → C w') (hk : opQ P s e h K) (hm : MapOk N rs vs β a e m) (hg : ∀ x ∈ m, ∀ p, x.g = some p → p.1 < 99999) :
    o.quiet P a C (AfterQ r N rs vs β h (keepM m o.dst) K) := by
  have fin : ∀ {v : Value} {d : Nat}, dstN vs o = some d → (∀ w, C w → (execOp a.eval o).run P w = .ok (.value v) w) → K (e.set d v) → o.quiet P a C (AfterQ r N rs vs β h (keepM m o.dst) K) := by
    intro v d hd hrun hk
    refine ⟨v, fun w hw => ?_, _, hr.put hN hd v, hm.keep hg (fun _ _ => rfl) (put_keeps hd v), hk⟩
    simp only [Oper.quietAt, hrun w hw, Oper.quietUpon, and_self]
  have finc : ∀ {v : Value} {d g : Nat} {args : Array Value}, dstN vs o = some d → (∀ w, (execOp a.eval o).run P w = .ok (.enter g args) w) → CallsH P g args h (fun v' h' => v' = v ∧ h' = h) → K (e.set d v) → o.quiet P a C (AfterQ r N rs vs β h (keepM m o.dst) K) := by
    intro v d g args hd hrun hcall hk
    refine ⟨v, fun w hw => ?_, _, hr.put hN hd v, hm.keep hg (fun _ _ => rfl) (put_keeps hd v), hk⟩
    simp only [Oper.quietAt, hrun w, Oper.quietUpon, true_and]
    refine (hcall.2 β w (hC w hw)).mono ?_
    rintro x w' ⟨v', h', rfl, _, hs, st, rfl, rfl⟩
    exact ⟨rfl, hCs _ _ hw hs st⟩
  by_cases hp : isPure s = true
  · obtain ⟨v, hv, hk⟩ := opQ_pure hp hk
    have h0 := fun w => pure_sound (w := w) hs hr hv
    exact fin (h0 default).2.1 (fun w _ => (h0 w).2.2) hk
  have hmem := slimN_mem hs (by simpa using hp)
  cases hmem with
  | al | bx | st | bls | app | bl0 => simp [opQ, pureV] at hk
  | @ld d t x y n ho hd hx hn =>
    obtain ⟨v, hv, hk⟩ := hk
    exact fin hd (fun w hw => by simp only [execOp, ho, slO_ev hr hx, Sem.run_bind, run_loadAt (hC w hw) hn hv, Result.andThen_ok]; rfl) hk
  | @cvS d src dst x y el ho hd hx hs1 ht1 he1 =>
    obtain ⟨s, hv, hk⟩ := hk
    exact fin hd (fun w hw => by simp only [execOp, ho, slO_ev hr hx, Sem.run_bind, cvS_run hs1 ht1 he1 (hC w hw) hv, Result.andThen_ok]; rfl) hk
  | @ixA d t x y j k el i ho hd hx hj ht hi =>
    simp only [opQ] at hk
    split at hk
    · rename_i A n c kk jj hA hjj
      obtain ⟨⟨b1, b2⟩, ad, rfl, hk⟩ := hk
      refine fin hd (fun w _ => ?_) hk
      simp [execOp, ho, slO_ev hr hx, slO_ev hr hj, hA, hjj, Instr.indexAt, asIntOf, run_underlying ht, b1, b2, run_sizeOf hi]
    · exact hk.elim
  | @sl d t x y lo hi mx lo' hi' mx' el i ho hd hx hl hh hmm hmh ht hi2 =>
    simp only [opQ] at hk
    split at hk
    · rename_i A n c hA
      split at hk
      · rename_i l u m e1 e2 e3
        obtain ⟨hb, hk⟩ := hk
        refine fin hd (fun w _ => ?_) hk
        have := slice_run (P := P) (w := w) (A := A) ht hi2 e1 e2 e3 hmh hb
        simp only [execOp, ho, slO_ev hr hx, slOo_bnd hr hl, slOo_bnd hr hh, slOo_bnd hr hmm, hA, Sem.run_bind, this, Result.andThen_ok]
        rfl
      · exact hk.elim
    · exact hk.elim
  | @call d c f xs ho hd hc hx =>
    obtain ⟨v, hcall, hk⟩ := hk
    exact finc hd (fun w => call_run (cap := #[]) ho hr hc hx (by rfl) hcall.1) (by simpa using hcall) hk
  | @cav d c n f xs ho hd hc hf hx =>
    obtain ⟨g, cap, v, hfv, hcall, hk⟩ := hk
    exact finc hd (fun w => call_run ho hr hc hx (by rw [slO_ev hr hf]; exact hfv) hcall.1) hcall hk

theorem op1_quiet (hs : slim1 P N rs vs m g o = some (s, m', c)) (hN : N ≤ 99999) (hr : Rel r N rs vs β a e h) (hC : ∀ w, C w → Sat β h w) (hCs : ∀ w w', C w → Sat β h w' → Step β h w β h w' → C w') (hk : opQC P c s e h K) (hm : MapOk N rs vs β a e m) (hg : ∀ x ∈ m, ∀ p, x.g = some p → p.1 < 99999)
    (hgo : g = none ∨ ∃ d b, g = some (d, b) ∧ gOk (e d) b = true) : o.quiet P a C (AfterQ r N rs vs β h m' K) := by
  have normal : ∀ {s m' c}, (slimN P N vs o).map (fun x => (x, keepM m o.dst, (none : Option Nat))) = some (s, m', c) → opQC P c s e h K → o.quiet P a C (AfterQ r N rs vs β h m' K) := by
    intro s m' c hs hk
    simp only [Option.map_eq_some_iff, Prod.mk.injEq] at hs
    obtain ⟨x, hx, rfl, rfl, rfl⟩ := hs
    exact opN_quiet hx hN hr hC hCs hk hm hg
  unfold slim1 at hs
  cases ho : o.op <;> simp only [ho] at hs <;> try exact normal hs hk
  case alloc t =>
    split at hs
    · split at hs
      · split at hs
        · simp only [Option.map_eq_some_iff, Option.bind_eq_some_iff, Prod.mk.injEq] at hs
          obtain ⟨z, ⟨i, hi, hz⟩, rfl, rfl, rfl⟩ := hs
          simp [opQC, opQ, pureV] at hk
        · cases hs
      · exact normal hs hk
    · cases hs
  case box t x =>
    split at hs
    · split at hs
      · split at hs
        · simp only [Option.map_eq_some_iff, Prod.mk.injEq] at hs
          obtain ⟨y, hy, rfl, rfl, rfl⟩ := hs
          simp [opQC, opQ, pureV] at hk
        · cases hs
      · exact normal hs hk
    · cases hs
  case fieldAddr t x f =>
    split at hs
    · rename_i s0 off hl
      split at hs
      · rename_i d fs hd hu
        split at hs
        · rename_i hc
          simp only [Option.bind_eq_some_iff] at hs
          obtain ⟨fd, hfd, i, hi, hs⟩ := hs
          split at hs
          · cases hs
          · rename_i hne
            simp only [Option.some.injEq, Prod.mk.injEq] at hs
            obtain ⟨rfl, rfl, rfl⟩ := hs
            have hreg : (∀ n, isReg rs x = some n → ∃ cs, Item.reg n cs ∈ h.L) ∧ K e := by
              unfold opQC at hk
              split at hk
              · rename_i hn
                exact ⟨fun n hn' => (by rw [hn] at hn'; cases hn'), hk⟩
              · rename_i n hn
                split at hk
                · rename_i cs hcs
                  exact ⟨fun n' hn' => (by rw [hn] at hn'; cases hn'; exact ⟨cs, getR_mem hcs⟩), hk⟩
                · exact hk.elim
            have hx := lookM_ok hl hr hm hgo hreg.1
            have hdv : d ∈ vs := by simpa using hc.1
            refine ⟨.pointer (some ⟨β s0, off + fd.offset, none⟩), fun w _ => ?_, e, ?_, ?_, hreg.2⟩
            · have : (execOp a.eval o).run P w = .ok (.value (.pointer (some ⟨β s0, off + fd.offset, none⟩))) w := by
                simp [execOp, ho, hx, Instr.fieldAt, run_underlying hu, hfd, Instr.sureAddr, fieldPlace, run_sizeOf hi, hne, add_lit]
              simp only [Oper.quietAt, this, Oper.quietUpon, and_self]
            · rw [hd]
              refine ⟨by simp [Act.put, hr.size], fun i hi hv => ?_, fun s' cs' hs' => ?_, hr.dfr⟩
              · rw [getD_put_ne (fun he => hv (by rw [← he]; exact hdv))]
                exact hr.env i hi hv
              · obtain ⟨g1, g2, g3⟩ := hr.reg s' cs' hs'
                refine ⟨g1, g2, ?_⟩
                have hne : ¬ d = s' := fun he => by
                  have h1 : rs.contains d = true := by rw [he]; simpa using g1.1
                  rw [hc.2.1] at h1
                  cases h1
                rw [getD_put_ne hne]
                exact g3
            · rw [hd]
              constructor
              intro y hy
              rcases List.mem_cons.1 hy with rfl | hy
              · exact ⟨⟨hdv, hc.2.1⟩, fun _ => getD_put_eq (by rw [hr.size]; exact hc.2.2)⟩
              · obtain ⟨hy, hyd⟩ := List.mem_filter.1 hy
                obtain ⟨g1, g2⟩ := hm.ok y hy
                refine ⟨g1, fun hgy => ?_⟩
                have hne : ¬ d = y.d := fun he => by simp [he] at hyd
                rw [getD_put_ne hne]
                exact g2 hgy
        · cases hs
      · cases hs
    · exact normal hs hk
  case load t x =>
    split at hs
    · rename_i s0 off hl
      simp only [Option.bind_eq_some_iff, Option.map_eq_some_iff, Prod.mk.injEq] at hs
      obtain ⟨d, hd, n, hn, rfl, rfl, rfl⟩ := hs
      simp only [opQC, opQ] at hk
      split at hk
      · rename_i cs hcs
        split at hk
        · rename_i v hv
          have hx := lookM_ok hl hr hm hgo (fun n' hn' => ⟨cs, by rw [← (isReg_look hl hn').1]; exact getR_mem hcs⟩)
          refine ⟨v, fun w hw => ?_, _, hr.put hN hd v, hm.keep hg (fun _ _ => rfl) (put_keeps hd v), hk⟩
          obtain ⟨te, hte⟩ := (hC w hw).l _ (getR_mem hcs)
          have hld : (Instr.loadAt t (.pointer (some ⟨β s0, off, none⟩))).run P w = .ok v w := by
            have hsat : Sat β ⟨fun _ => none, [.blk (β s0) cs], []⟩ w := ⟨fun _ _ h => (by cases h), fun it hit => (by simp at hit; subst hit; exact ⟨te, hte⟩), by simp [dom, Item.block], fun _ _ => rfl, fun _ h => (by cases h)⟩
            refine run_loadAt hsat hn ?_
            cases n with
            | none => exact ⟨_, rfl, .blk (cs := cs) (by simp) (by simpa [ldC] using hv)⟩
            | some k =>
              simp only [ldC] at hv
              split at hv
              · rename_i hle
                cases hv
                refine ⟨_, _, rfl, rfl, by simp; omega, fun j u hu => ?_⟩
                rw [add_lit]
                refine .blk (cs := cs) (by simp) ?_
                simp only [List.getElem?_take, List.getElem?_drop] at hu
                split at hu
                · exact hu
                · cases hu
              · cases hv
          have hrun : (execOp a.eval o).run P w = .ok (.value v) w := by
            simp only [execOp, ho, hx, Sem.run_bind, hld, Result.andThen_ok]
            rfl
          simp only [Oper.quietAt, hrun, Oper.quietUpon, and_self]
        · exact hk.elim
      · exact hk.elim
    · exact normal hs hk
  case store t x y =>
    split at hs
    · split at hs
      · simp only [Option.bind_eq_some_iff, Option.map_eq_some_iff, Prod.mk.injEq] at hs
        obtain ⟨y', hy, i, hi, rfl, rfl, rfl⟩ := hs
        simp [opQC, opQ, pureV] at hk
      · cases hs
    · exact normal hs hk

/-- A region in any order: its walk in the text's order. -/
theorem ops_quiet {all : Array Oper} (hN : N ≤ 99999) (hC : ∀ w, C w → Sat β h w) (hCs : ∀ w w', C w → Sat β h w' → Step β h w β h w' → C w') {Qa : Act → Prop} (hQ : ∀ a' e', Rel r N rs vs β a' e' h → K e' → Qa a') : ∀ (l : List Oper) (m : List ME) (sl : List SI) (a : Act) (e : Env), slimL P N rs vs all l m = some sl →
    Rel r N rs vs β a e h → MapOk N rs vs β a e m → GM N m → regionQ P sl e h K → wpQuiet P all C Qa l a
  | [], m, sl, a, e, hs, hr, _, _, hk => by
    simp only [slimL, Option.some.injEq] at hs
    subst hs
    exact hQ a e hr hk
  | o :: l, m, sl, a, e, hs, hr, hm, hgm, hk => by
    have hgm9 : ∀ x ∈ m, ∀ p, x.g = some p → p.1 < 99999 := fun x hx p hp => Nat.lt_of_lt_of_le (hgm x hx p hp) hN
    have go : ∀ {s m' c g sl'}, slim1 P N rs vs m g o = some (s, m', c) → (∀ p, g = some p → p.1 < N) → (g = none ∨ ∃ d b, g = some (d, b) ∧ gOk (e d) b = true) → slimL P N rs vs all l m' = some sl' → opQC P c s e h (fun e => regionQ P sl' e h K) →
        o.quiet P a C (wpQuiet P all C Qa l) := by
      intro s m' c g sl' h1 hgN hgo hsl hop
      refine Oper.quiet_mono ?_ (op1_quiet h1 hN hr hC hCs hop hm hgm9 hgo)
      rintro a' ⟨e', r1, r2, r5⟩
      exact ops_quiet hN hC hCs hQ l m' sl' a' e' hsl r1 r2 (slim1_gm h1 hgm hgN) r5
    unfold wpQuiet
    unfold slimL at hs
    split at hs
    · rename_i hg
      simp only [Option.bind_eq_some_iff, Option.map_eq_some_iff] at hs
      obtain ⟨⟨s, m', c⟩, h1, sl', h2, rfl⟩ := hs
      rw [if_pos (by simp [Region.wanted, hg])]
      exact go h1 (fun p hp => by cases hp) (.inl rfl) h2 hk
    · rename_i j b hg
      simp only [Option.bind_eq_some_iff] at hs
      obtain ⟨d0, hd0, hs⟩ := hs
      split at hs
      · rename_i hdc
        simp only [Option.bind_eq_some_iff] at hs
        obtain ⟨⟨s, m', c⟩, h1, hs⟩ := hs
        split at hs
        · rename_i hsk
          simp only [Option.map_eq_some_iff] at hs
          obtain ⟨sl', h2, rfl⟩ := hs
          rw [wanted_iff hr (by simpa [Option.bind_eq_some_iff] using hd0) hdc.1 hdc.2 hg]
          simp only [regionQ] at hk
          by_cases hgo : gOk (e d0) b = true
          · rw [if_pos hgo] at hk ⊢
            exact go h1 (fun p hp => by cases hp; exact hdc.1) (.inr ⟨d0, b, rfl, hgo⟩) h2 hk
          · rw [if_neg hgo] at hk ⊢
            have hsn := skip_sound (o := o) hsk hN hr hm (by simpa using hgo) (slim1_vs h1 (fun x hx => (hm.ok x hx).1))
            exact ops_quiet hN hC hCs hQ l m' sl' _ _ h2 hsn.1 hsn.2 (slim1_gm h1 hgm (fun p hp => by cases hp; exact hdc.1)) hk
        · cases hs
      · cases hs
end quiet

def noDefer (ops : Array Oper) : Bool := ops.all fun o => match o.op with | .defer _ => false | _ => true
theorem noDefer_spec {ops : Array Oper} (h : noDefer ops = true) (j : Nat) (o : Oper) (ho : ops[j]? = some o) : nodefer o := by
  intro c hc
  have := Array.all_eq_true.1 h j (by rcases Nat.lt_or_ge j ops.size with h' | h'; exact h'; rw [Array.getElem?_eq_none h'] at ho; cases ho)
  rw [(Array.getElem?_eq_some_iff.1 ho).2] at this
  simp [hc] at this
/-- **A region whose order is open.** -/
theorem wpH_regionQ {r : Option Nat} {P : Program} {N : Nat} {rs vs : List Nat} {Q : Exit → Env → H → Prop} {e : Env} {h : H} {id : Nat} {ops : Array Oper} {sl : List SI} (hmix : P.follows .mixedOrders = true) (hlex : Region.lexB .any ops = true) (hnd : noDefer ops = true) (hN : N ≤ 99999)
    (hs : slimL P N rs vs ops ops.toList [] = some sl) (hk : regionQ P sl e h fun e => Q .normal e h) : wpH r P N rs vs (.region id ops true) Q e h := by
  intro β a w hr hw
  have hlex' := hlex
  simp only [Region.lexB, Bool.and_eq_true] at hlex'
  let C : World → Prop := fun w' => Sat β h w' ∧ Step β h w β h w'
  have hC0 : C { w with drawn := w.drawn + 1 } := ⟨⟨hw.g, hw.l, hw.nd, hw.df, hw.d⟩, ⟨rfl, rfl, rfl, Nat.le_refl _, fun _ _ _ => rfl, fun _ _ h => h, fun _ h h' => absurd h h', fun _ h => .inl h, [], rfl, by simp⟩⟩
  have hq := ops_quiet (P := P) (C := C) (all := ops) hN (fun w h => h.1) (fun w1 w2 h1 h2 h3 => ⟨h2, h1.2.trans h3⟩) (Qa := fun a' => ∃ e', Rel r N rs vs β a' e' h ∧ Q .normal e' h) (fun a' e' h1 h2 => ⟨e', h1, h2⟩) ops.toList [] sl a e hs hr ⟨fun x hx => by cases hx⟩ (fun x hx => by cases hx) hk
  have hany := wpAnyQ_lex (C := C) (md := .any) hlex'.1 ops.toList 0 (Array.replicate ops.size false) a (by simp) (by simpa using hlex'.2) hq
  refine wpIn_region_any hmix ?_
  have := wpAnyIn_of_quiet (r := r) (P := P) (C := C) (Q' := PostH r N rs vs β h w Q) (noDefer_spec hnd) (fun a' w' hw' ⟨e', h1, h2⟩ => ⟨β, e', h, h1, hw'.1, hw'.2, h2⟩) _ _ _ _ hC0 hany
  simpa using this
end Go.Kx
