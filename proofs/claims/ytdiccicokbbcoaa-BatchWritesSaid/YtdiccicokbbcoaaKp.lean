/- The text behind that: regions whose order is open, with calls that make memory. No condition. -/
import Derived.Test.YtdiccicokbbcoaaKn
import Derived.OrdersHeld
set_option linter.unusedSimpArgs false
set_option linter.unusedVariables false
namespace Go.Kx
open Go Go.RowKit

def notCall : SOp → Bool
  | .call _ _ _ | .cav _ _ _ => false
  | _ => true
/-- One value, in every world of a class, and the world stays. -/
def yldE (P : Program) (o : Oper) (a : Act) (C : World → Prop) (next : Act → Prop) : Prop := ∃ v, (∀ w, C w → (execOp a.eval o).run P w = .ok (.value v) w) ∧ next (a.put o.dst v)
section yld
variable {r : Option Nat} {P : Program} {N : Nat} {rs vs : List Nat} {β : Nat → Nat} {a : Act} {w : World} {e : Env} {h : H} {o : Oper} {K : Env → Prop} {s : SOp} {d : Nat} {m m' : List ME} {g : Option (Nat × Bool)} {c : Option Nat} {C : World → Prop}

theorem opN_yld (hs : slimN P N vs o = some s) (hN : N ≤ 99999) (hr : Rel r N rs vs β a e h) (hC : ∀ w, C w → Sat β h w) (hnc : notCall s = true) (hk : opQ P s e h K) (hm : MapOk N rs vs β a e m) (hg : ∀ x ∈ m, ∀ p, x.g = some p → p.1 < 99999) :
    yldE P o a C (AfterQ r N rs vs β h (keepM m o.dst) K) := by
  have fin : ∀ {v : Value} {d : Nat}, dstN vs o = some d → (∀ w, C w → (execOp a.eval o).run P w = .ok (.value v) w) → K (e.set d v) → yldE P o a C (AfterQ r N rs vs β h (keepM m o.dst) K) := by
    intro v d hd hrun hk
    exact ⟨v, hrun, _, hr.put hN hd v, hm.keep hg (fun _ _ => rfl) (put_keeps hd v), hk⟩
  by_cases hp : isPure s = true
  · obtain ⟨v, hv, hk⟩ := opQ_pure hp hk
    have h0 := fun w => pure_sound (w := w) hs hr hv
    exact fin (h0 default).2.1 (fun w _ => (h0 w).2.2) hk
  have hmem := slimN_mem hs (by simpa using hp)
  cases hmem with
  | al | bx | st | bls | app | bl0 => simp [opQ, pureV] at hk
  | @ld d t x y n ho hd hx hn =>
    obtain ⟨v, hv, hk⟩ := hk
    exact fin hd (fun w hw => by simp only [execOp, ho, slO_ev hr hx, Sem.run_bind, run_loadAt (hC w hw) hn hv, Result.andThen_ok]; rfl) hk
  | @cvS d src dst x y el ho hd hx hs1 ht1 he1 =>
    obtain ⟨s, hv, hk⟩ := hk
    exact fin hd (fun w hw => by simp only [execOp, ho, slO_ev hr hx, Sem.run_bind, cvS_run hs1 ht1 he1 (hC w hw) hv, Result.andThen_ok]; rfl) hk
  | @ixA d t x y j k el i ho hd hx hj ht hi =>
    simp only [opQ] at hk
    split at hk
    · rename_i A n c kk jj hA hjj
      obtain ⟨⟨b1, b2⟩, ad, rfl, hk⟩ := hk
      refine fin hd (fun w _ => ?_) hk
      simp [execOp, ho, slO_ev hr hx, slO_ev hr hj, hA, hjj, Instr.indexAt, asIntOf, run_underlying ht, b1, b2, run_sizeOf hi]
    · exact hk.elim
  | @sl d t x y lo hi mx lo' hi' mx' el i ho hd hx hl hh hmm hmh ht hi2 =>
    simp only [opQ] at hk
    split at hk
    · rename_i A n c hA
      split at hk
      · rename_i l u m e1 e2 e3
        obtain ⟨hb, hk⟩ := hk
        refine fin hd (fun w _ => ?_) hk
        have := slice_run (P := P) (w := w) (A := A) ht hi2 e1 e2 e3 hmh hb
        simp only [execOp, ho, slO_ev hr hx, slOo_bnd hr hl, slOo_bnd hr hh, slOo_bnd hr hmm, hA, Sem.run_bind, this, Result.andThen_ok]
        rfl
      · exact hk.elim
    · exact hk.elim
  | call => cases hnc
  | cav => cases hnc

theorem op1_yld (hs : slim1 P N rs vs m g o = some (s, m', c)) (hN : N ≤ 99999) (hr : Rel r N rs vs β a e h) (hC : ∀ w, C w → Sat β h w) (hnc : notCall s = true) (hk : opQC P c s e h K) (hm : MapOk N rs vs β a e m) (hg : ∀ x ∈ m, ∀ p, x.g = some p → p.1 < 99999)
    (hgo : g = none ∨ ∃ d b, g = some (d, b) ∧ gOk (e d) b = true) : yldE P o a C (AfterQ r N rs vs β h m' K) := by
  have normal : ∀ {s m' c}, (slimN P N vs o).map (fun x => (x, keepM m o.dst, (none : Option Nat))) = some (s, m', c) → notCall s = true → opQC P c s e h K → yldE P o a C (AfterQ r N rs vs β h m' K) := by
    intro s m' c hs hnc hk
    simp only [Option.map_eq_some_iff, Prod.mk.injEq] at hs
    obtain ⟨x, hx, rfl, rfl, rfl⟩ := hs
    exact opN_yld hx hN hr hC hnc hk hm hg
  unfold slim1 at hs
  cases ho : o.op <;> simp only [ho] at hs <;> try exact normal hs hnc hk
  case alloc t =>
    split at hs
    · split at hs
      · split at hs
        · simp only [Option.map_eq_some_iff, Option.bind_eq_some_iff, Prod.mk.injEq] at hs
          obtain ⟨z, ⟨i, hi, hz⟩, rfl, rfl, rfl⟩ := hs
          simp [opQC, opQ, pureV] at hk
        · cases hs
      · exact normal hs hnc hk
    · cases hs
  case box t x =>
    split at hs
    · split at hs
      · split at hs
        · simp only [Option.map_eq_some_iff, Prod.mk.injEq] at hs
          obtain ⟨y, hy, rfl, rfl, rfl⟩ := hs
          simp [opQC, opQ, pureV] at hk
        · cases hs
      · exact normal hs hnc hk
    · cases hs
  case fieldAddr t x f =>
    split at hs
    · rename_i s0 off hl
      split at hs
      · rename_i d fs hd hu
        split at hs
        · rename_i hc
          simp only [Option.bind_eq_some_iff] at hs
          obtain ⟨fd, hfd, i, hi, hs⟩ := hs
          split at hs
          · cases hs
          · rename_i hne
            simp only [Option.some.injEq, Prod.mk.injEq] at hs
            obtain ⟨rfl, rfl, rfl⟩ := hs
            have hreg : (∀ n, isReg rs x = some n → ∃ cs, Item.reg n cs ∈ h.L) ∧ K e := by
              unfold opQC at hk
              split at hk
              · rename_i hn
                exact ⟨fun n hn' => (by rw [hn] at hn'; cases hn'), hk⟩
              · rename_i n hn
                split at hk
                · rename_i cs hcs
                  exact ⟨fun n' hn' => (by rw [hn] at hn'; cases hn'; exact ⟨cs, getR_mem hcs⟩), hk⟩
                · exact hk.elim
            have hx := lookM_ok hl hr hm hgo hreg.1
            have hdv : d ∈ vs := by simpa using hc.1
            refine ⟨.pointer (some ⟨β s0, off + fd.offset, none⟩), fun w _ => ?_, e, ?_, ?_, hreg.2⟩
            · have : (execOp a.eval o).run P w = .ok (.value (.pointer (some ⟨β s0, off + fd.offset, none⟩))) w := by
                simp [execOp, ho, hx, Instr.fieldAt, run_underlying hu, hfd, Instr.sureAddr, fieldPlace, run_sizeOf hi, hne, add_lit]
              exact this
            · rw [hd]
              refine ⟨by simp [Act.put, hr.size], fun i hi hv => ?_, fun s' cs' hs' => ?_, hr.dfr⟩
              · rw [getD_put_ne (fun he => hv (by rw [← he]; exact hdv))]
                exact hr.env i hi hv
              · obtain ⟨g1, g2, g3⟩ := hr.reg s' cs' hs'
                refine ⟨g1, g2, ?_⟩
                have hne : ¬ d = s' := fun he => by
                  have h1 : rs.contains d = true := by rw [he]; simpa using g1.1
                  rw [hc.2.1] at h1
                  cases h1
                rw [getD_put_ne hne]
                exact g3
            · rw [hd]
              constructor
              intro y hy
              rcases List.mem_cons.1 hy with rfl | hy
              · exact ⟨⟨hdv, hc.2.1⟩, fun _ => getD_put_eq (by rw [hr.size]; exact hc.2.2)⟩
              · obtain ⟨hy, hyd⟩ := List.mem_filter.1 hy
                obtain ⟨g1, g2⟩ := hm.ok y hy
                refine ⟨g1, fun hgy => ?_⟩
                have hne : ¬ d = y.d := fun he => by simp [he] at hyd
                rw [getD_put_ne hne]
                exact g2 hgy
        · cases hs
      · cases hs
    · exact normal hs hnc hk
  case load t x =>
    split at hs
    · rename_i s0 off hl
      simp only [Option.bind_eq_some_iff, Option.map_eq_some_iff, Prod.mk.injEq] at hs
      obtain ⟨d, hd, n, hn, rfl, rfl, rfl⟩ := hs
      simp only [opQC, opQ] at hk
      split at hk
      · rename_i cs hcs
        split at hk
        · rename_i v hv
          have hx := lookM_ok hl hr hm hgo (fun n' hn' => ⟨cs, by rw [← (isReg_look hl hn').1]; exact getR_mem hcs⟩)
          refine ⟨v, fun w hw => ?_, _, hr.put hN hd v, hm.keep hg (fun _ _ => rfl) (put_keeps hd v), hk⟩
          obtain ⟨te, hte⟩ := (hC w hw).l _ (getR_mem hcs)
          have hld : (Instr.loadAt t (.pointer (some ⟨β s0, off, none⟩))).run P w = .ok v w := by
            have hsat : Sat β ⟨fun _ => none, [.blk (β s0) cs], []⟩ w := ⟨fun _ _ h => (by cases h), fun it hit => (by simp at hit; subst hit; exact ⟨te, hte⟩), by simp [dom, Item.block], fun _ _ => rfl, fun _ h => (by cases h)⟩
            refine run_loadAt hsat hn ?_
            cases n with
            | none => exact ⟨_, rfl, .blk (cs := cs) (by simp) (by simpa [ldC] using hv)⟩
            | some k =>
              simp only [ldC] at hv
              split at hv
              · rename_i hle
                cases hv
                refine ⟨_, _, rfl, rfl, by simp; omega, fun j u hu => ?_⟩
                rw [add_lit]
                refine .blk (cs := cs) (by simp) ?_
                simp only [List.getElem?_take, List.getElem?_drop] at hu
                split at hu
                · exact hu
                · cases hu
              · cases hv
          have hrun : (execOp a.eval o).run P w = .ok (.value v) w := by
            simp only [execOp, ho, hx, Sem.run_bind, hld, Result.andThen_ok]
            rfl
          exact hrun
        · exact hk.elim
      · exact hk.elim
    · exact normal hs hnc hk
  case store t x y =>
    split at hs
    · split at hs
      · simp only [Option.bind_eq_some_iff, Option.map_eq_some_iff, Prod.mk.injEq] at hs
        obtain ⟨y', hy, i, hi, rfl, rfl, rfl⟩ := hs
        simp [opQC, opQ, pureV] at hk
      · cases hs
    · exact normal hs hnc hk
end yld

section held
variable {r : Option Nat} {P : Program} {md : Region.Mode} {ops : Array Oper} {Q : Exit → Act → World → Prop} {S : World → Prop}
theorem yld_wpOpIn {i : Nat} {o : Oper} {v : Value} {a : Act} (hd : nodefer o) (hi : ops[i]? = some o) (hy : YieldsIf P ops S o v a)
    {K : Act → World → Prop} {w : World} (hS : S w) (h : K (a.put o.dst v) w) : wpOpIn (Fr r) 0 P ops Q i K a w := by
  unfold Go.wpOpIn
  simp only [hi]
  rcases hy with ⟨hw, hv⟩ | ⟨hw, rfl⟩
  · simp only [hw, if_true]; exact wp_value hd (hv w hS) h
  · simp only [hw, Bool.false_eq_true, if_false]; exact ⟨fun _ _ => trivial, h⟩
theorem wpOpIn_putIf {j : Nat} {oi oj : Oper} {v : Value} (hdj : nodefer oj) (hj : ops[j]? = some oj) (hap : oi.apart ops oj = true)
    (hsi : ∀ cs b, oi.op ≠ .select cs b) (hsj : ∀ cs b, oj.op ≠ .select cs b)
    (hQ : ∀ c a w, Q (.panic c) (a.put oi.dst v) w → Q (.panic c) a w) {K : Act → World → Prop} {a : Act} {w : World}
    (hy : YieldsIf P ops S oi v a) (h : wpOpIn (Fr r) 0 P ops Q j K (a.put oi.dst v) w) :
    wpOpIn (Fr r) 0 P ops Q j (fun a' w' => YieldsIf P ops S oi v a' ∧ K (a'.put oi.dst v) w') a w := by
  obtain ⟨h1, h2, h3⟩ := Oper.apart_spec hap
  have keep : ∀ (a : Act), YieldsIf P ops S oi v a → ∀ u, YieldsIf P ops S oi v (a.put oj.dst u) := fun a hy u =>
    hy.of_same (execOp_put oi hsi a oj.dst u h3) (wanted_put oi a oj.dst u h3)
  unfold wpOpIn at *
  simp only [hj] at *
  rw [wanted_put oj a oi.dst v h1] at h
  split
  · rename_i hw
    simp only [hw, if_true] at h
    unfold Oper.wpIn at *
    refine ⟨fun _ _ => trivial, ?_⟩
    have h := h.2
    rw [Oper.semAt_eq _ _ _ hdj, execOp_put oj hsj a oi.dst v h1] at h
    rw [Oper.semAt_eq _ _ _ hdj]
    generalize (execOp a.eval oj).run P w = res at *
    cases res with
    | ok x w' =>
      cases x <;> simp only [Oper.uponIn] at h ⊢
      case value u => exact ⟨keep a hy u, by rw [← Act.put_comm a v u h2]; exact h⟩
      case skip => exact ⟨keep a hy _, by rw [← Act.put_comm a v undef h2]; exact h⟩
      case defer d =>
        refine ⟨?_, ?_⟩
        · exact (hy.of_same (a' := { a with defers := d :: a.defers }) rfl rfl).of_same (execOp_put oi hsi _ oj.dst _ h3) (wanted_put oi _ oj.dst _ h3)
        · rw [← Act.put_comm _ v undef h2, ← Act.put_defers]
          exact h
      case enter f args =>
        refine ⟨h.1, CallsIn.mono h.2 fun e w'' he => ?_⟩
        cases e with
        | returned u => exact ⟨keep a hy u, by rw [← Act.put_comm a v u h2]; exact he⟩
        | panicked c => exact hQ _ _ _ he
        | outgrown => exact he
      case row row args => exact ⟨h.1, RowsIn.mono h.2 fun u w'' he => ⟨keep a hy u, by rw [← Act.put_comm a v u h2]; exact he⟩⟩
      case round l f tmps assign body =>
        refine ⟨h.1, RoundIn.mono h.2 fun e w'' he => ?_⟩
        cases e with
        | returned u => exact ⟨keep a hy u, by rw [← Act.put_comm a v u h2]; exact he⟩
        | panicked c => exact hQ _ _ _ he
        | outgrown => exact he
    | halt x w' =>
      cases x <;> simp only [Oper.uponIn] at h ⊢
      case panic u => exact hQ _ _ _ h
  · rename_i hw
    simp only [hw] at h
    exact ⟨fun _ _ => trivial, keep a hy _, by rw [← Act.put_comm a v undef h2]; exact h.2⟩
def wpAnyHI (r : Option Nat) (P : Program) (md : Region.Mode) (ops : Array Oper) (Q : Exit → Act → World → Prop) (S : World → Prop) : Nat → Array Bool → Act → World → Prop
  | 0, listed, a, w => Region.ready md ops listed = [] ∧ Q .normal a w
  | fuel + 1, listed, a, w =>
    (Region.ready md ops listed = [] → Q .normal a w) ∧
    ∀ i ∈ Region.ready md ops listed, wpOpIn (Fr r) 0 P ops Q i (fun a' w' => S w' ∧ wpAnyHI r P md ops Q S fuel (listed.setIfInBounds i true) a' w') a w
theorem wpAnyIn_of_held : ∀ (fuel : Nat) (listed : Array Bool) (a : Act) (w : World), wpAnyHI r P md ops Q S fuel listed a w → wpAnyIn (Fr r) 0 P md ops Q fuel listed a w
  | 0, _, _, _, h => h
  | fuel + 1, _, _, _, h => ⟨h.1, fun i hi => wpOpIn_mono (fun a' w' h' => wpAnyIn_of_held fuel _ a' w' h'.2) (h.2 i hi)⟩
theorem wpAnyHI_first {i : Nat} {oi : Oper} {v : Value} (hd : ∀ (j : Nat) (o : Oper), ops[j]? = some o → nodefer o) (hi : ops[i]? = some oi) (hsel : ∀ (j : Nat) (o : Oper) cs b, ops[j]? = some o → o.op ≠ .select cs b)
    (hQ : ∀ c a w, Q (.panic c) (a.put oi.dst v) w → Q (.panic c) a w) :
    ∀ (fuel : Nat) (listed : Array Bool) (a : Act) (w : World),
      (∀ j oj, ops[j]? = some oj → j ≠ i → listed.getD j true = false → (∀ e ∈ oj.after, Region.binds md e = true → e.on ≠ i) → oi.apart ops oj = true) →
      i ∈ Region.ready md ops listed → YieldsIf P ops S oi v a → S w →
      wpAnyHI r P md ops Q S fuel (listed.setIfInBounds i true) (a.put oi.dst v) w → wpAnyHI r P md ops Q S (fuel + 1) listed a w := by
  intro fuel
  induction fuel with
  | zero =>
    intro listed a w _ hr hy hS H
    refine ⟨fun h => (by rw [h] at hr; cases hr), fun j hj => ?_⟩
    by_cases hji : j = i
    · subst hji; exact yld_wpOpIn (hd _ _ hi) hi hy hS ⟨hS, H⟩
    · have := ready_mono hj hji
      rw [H.1] at this
      cases this
  | succ fuel ih =>
    intro listed a w hfree hr hy hS H
    refine ⟨fun h => (by rw [h] at hr; cases hr), fun j hj => ?_⟩
    by_cases hji : j = i
    · subst hji; exact yld_wpOpIn (hd _ _ hi) hi hy hS ⟨hS, H⟩
    · have h1 := H.2 j (ready_mono hj hji)
      obtain ⟨hjun, oj, hoj, hall⟩ := mem_ready.1 hj
      have hnot : ∀ e ∈ oj.after, Region.binds md e = true → e.on ≠ i := fun e he hb heq => by
        have h1 := hall e he hb
        have h0 := (mem_ready.1 hr).1
        rw [heq] at h1
        rcases Nat.lt_or_ge i listed.size with h' | h'
        · simp [h'] at h0 h1; rw [h0] at h1; cases h1
        · simp [Array.getElem?_eq_none h'] at h1
      have h2 := wpOpIn_putIf (hd _ _ hoj) hoj (hfree j oj hoj hji hjun hnot) (fun cs b => hsel i oi cs b hi) (fun cs b => hsel j oj cs b hoj) hQ hy h1
      have hfree' : ∀ k ok, ops[k]? = some ok → k ≠ i → (listed.setIfInBounds j true).getD k true = false →
          (∀ e ∈ ok.after, Region.binds md e = true → e.on ≠ i) → oi.apart ops ok = true := fun k ok hk hki hun hno => by
        refine hfree k ok hk hki ?_ hno
        by_cases hjk : j = k
        · subst hjk; exact hjun
        · rw [getD_set_ne true hjk] at hun; exact hun
      refine wpOpIn_mono (fun a' w' h3 => ⟨h3.2.1, ih (listed.setIfInBounds j true) a' w' hfree' (ready_mono hr (Ne.symm hji)) h3.1 h3.2.1 ?_⟩) h2
      rw [Array.setIfInBounds_comm _ _ hji]
      exact h3.2.2
end held

/-- Where an operation leaves its value. -/
theorem wpIn_put {r : Option Nat} {P : Program} {o : Oper} {a : Act} {w : World} {X : Act → World → Prop} {Q : Exit → Act → World → Prop} (hd : nodefer o) (h : o.wpIn (Fr r) 0 P a w X Q) : o.wpIn (Fr r) 0 P a w (fun a' w' => X a' w' ∧ ∃ v, a'.tmps = (a.put o.dst v).tmps) Q := by
  obtain ⟨h0, h⟩ := h
  refine ⟨h0, ?_⟩
  rw [Oper.semAt_eq _ _ _ hd] at h ⊢
  generalize (execOp a.eval o).run P w = res at *
  cases res with
  | ok x w' =>
    cases x <;> simp only [Oper.uponIn] at h ⊢
    case value u => exact ⟨h, _, rfl⟩
    case skip => exact ⟨h, _, rfl⟩
    case defer d => exact ⟨h, undef, by cases o.dst <;> rfl⟩
    case enter f args =>
      refine ⟨h.1, CallsIn.mono h.2 fun e w'' he => ?_⟩
      cases e with
      | returned u => exact ⟨he, _, rfl⟩
      | panicked c => exact he
      | outgrown => exact he
    case row row args => exact ⟨h.1, RowsIn.mono h.2 fun u w'' he => ⟨he, _, rfl⟩⟩
    case round l f tmps assign body =>
      refine ⟨h.1, RoundIn.mono h.2 fun e w'' he => ?_⟩
      cases e with
      | returned u => exact ⟨he, _, rfl⟩
      | panicked c => exact he
      | outgrown => exact he
  | halt x w' => cases x <;> simp only [Oper.uponIn] at h ⊢; exact h

/-- An order in which all may be gone through: 'true': what reads, taken first; 'false': what has to come. -/
def schedB (md : Region.Mode) (ops : Array Oper) : List (Bool × Nat) → Array Bool → Bool
  | [], listed => (Region.ready md ops listed).isEmpty
  | (true, i) :: l, listed => (Region.ready md ops listed).contains i && Region.free md ops listed i && schedB md ops l (listed.setIfInBounds i true)
  | (false, i) :: l, listed => decide (Region.ready md ops listed = [i]) && schedB md ops l (listed.setIfInBounds i true)
def schedOps (ops : Array Oper) (σ : List (Bool × Nat)) : Option (List Oper) := σ.mapM fun p => ops[p.2]?
/-- What is known grows. -/
def Grow (h1 h : H) : Prop := (∀ b o, h1.G b = some o → h.G b = some o) ∧ h1.L.Sublist h.L ∧ h.D = h1.D
def regionX (P : Program) (h1 : H) : List (Bool × SI) → Env → H → (Env → H → Prop) → Prop
  | [], e, h, K => K e h
  | (true, ⟨none, s, c, _⟩) :: l, e, h, K => opQC P c s e h1 fun e => regionX P h1 l e h K
  | (true, ⟨some (d, b), s, c, k⟩) :: l, e, h, K => if gOk (e d) b = true then opQC P c s e h1 fun e => regionX P h1 l e h K else regionX P h1 l (e.set k undef) h K
  | (false, ⟨none, s, c, _⟩) :: l, e, h, K => opC P c s e h fun e h => Grow h1 h ∧ regionX P h1 l e h K
  | (false, ⟨some (d, b), s, c, k⟩) :: l, e, h, K => if gOk (e d) b = true then opC P c s e h fun e h => Grow h1 h ∧ regionX P h1 l e h K else regionX P h1 l (e.set k undef) h K

section sched
variable {r : Option Nat} {P : Program} {N : Nat} {rs vs : List Nat} {K : Env → H → Prop}
theorem sat_agree {β β0 : Nat → Nat} {h : H} {w : World} (ha : ∀ s cs, Item.reg s cs ∈ h.L → β s = β0 s) (hs : Sat β h w) : Sat β0 h w := by
  have hd : dom β0 h.L = dom β h.L := by
    obtain ⟨G, L, D⟩ := h
    dsimp only at ha ⊢
    clear hs
    unfold dom
    induction L with
    | nil => rfl
    | cons it L ih =>
      have h2 := ih fun s cs hm => ha s cs (.tail _ hm)
      have h1 : it.block β0 = it.block β := by
        cases it with
        | reg s cs => simp [Item.block, ha s cs (.head _)]
        | _ => rfl
      simp only [List.filterMap_cons, h1, h2]
  refine ⟨hs.g, fun it hit => ?_, by rw [hd]; exact hs.nd, fun b hb => hs.df b (by rw [← hd]; exact hb), hs.d⟩
  have := hs.l it hit
  cases it with
  | reg s cs =>
    obtain ⟨t, ht⟩ := this
    exact ⟨t, by rw [← ha s cs hit]; exact ht⟩
  | blk b cs => exact this
  | row v e sz n xs => exact this
  | obj b o => exact this
theorem sat_grow {β : Nat → Nat} {h1 h : H} {w : World} (hg : Grow h1 h) (hs : Sat β h w) : Sat β h1 w := by
  obtain ⟨G, L, D⟩ := h
  obtain ⟨G1, L1, D1⟩ := h1
  obtain ⟨g1, g2, g3⟩ := hg
  dsimp only at g1 g2 g3
  subst g3
  have hd : (dom β L1 ++ D).Sublist (dom β L ++ D) := (g2.filterMap _).append (List.Sublist.refl _)
  refine ⟨fun b o h => hs.g b o (g1 b o h), fun it h => hs.l it (g2.subset h), hd.nodup hs.nd, fun b hb => ?_, hs.d⟩
  have h0 := hs.df b (hd.subset hb)
  show G1 b = none
  cases hgb : G1 b with
  | none => rfl
  | some o => have := g1 b o hgb; dsimp only at h0; rw [h0] at this; cases this
def dstOk (rs : List Nat) (o : Oper) : Bool := match o.dst with | some d => !rs.contains d | none => true
theorem rel_grow {β : Nat → Nat} {a : Act} {e : Env} {h1 h : H} (hg : Grow h1 h) (hr : Rel r N rs vs β a e h) : Rel r N rs vs β a e h1 :=
  ⟨hr.size, hr.env, fun s cs hm => hr.reg s cs (hg.2.1.subset hm), by rw [hr.dfr, hg.2.2]⟩
theorem put_ne {a : Act} {o : Oper} {v : Value} {s : Nat} (hs : rs.contains s = true) (hd : dstOk rs o = true) : (a.put o.dst v).tmps.getD s undef = a.tmps.getD s undef := by
  unfold dstOk at hd
  cases ho : o.dst with
  | none => rfl
  | some d =>
    rw [ho] at hd
    refine getD_put_ne fun he => ?_
    subst he
    simp only [Bool.not_eq_true'] at hd
    rw [hd] at hs
    cases hs
theorem rel_back {β : Nat → Nat} {a : Act} {e e' : Env} {h1 h : H} {o : Oper} {v : Value} (hg : Grow h1 h) (hd : dstOk rs o = true) (hr : Rel r N rs vs β a e h) (hr1 : Rel r N rs vs β (a.put o.dst v) e' h1) : Rel r N rs vs β (a.put o.dst v) e' h :=
  ⟨hr1.size, hr1.env, fun s cs hm => by
    obtain ⟨q1, q2, q3⟩ := hr.reg s cs hm
    exact ⟨q1, q2, by rw [put_ne (by simpa using q1.1) hd]; exact q3⟩, by rw [hr1.dfr, hg.2.2]⟩
theorem sched_sound {ops : Array Oper} (hN : N ≤ 99999) (hsel : Region.noSelect ops = true) (hnd : ∀ (j : Nat) (o : Oper), ops[j]? = some o → nodefer o) (hdst : ops.all (dstOk rs) = true) {β0 : Nat → Nat} {h0 h1 : H} {w0 : World} :
    ∀ (σ : List (Bool × Nat)) (listed : Array Bool) (ol : List Oper) (m : List ME) (sl : List SI) (β : Nat → Nat) (a : Act) (w : World) (e : Env) (h : H), schedB .any ops σ listed = true → schedOps ops σ = some ol → slimL P N rs vs ops ol m = some sl →
    (((σ.map (·.1)).zip sl).all fun p => !p.1 || notCall p.2.s) = true → Rel r N rs vs β a e h → MapOk N rs vs β a e m → GM N m → Sat β h w → Step β0 h0 w0 β h w → Grow h1 h → (∀ s cs, Item.reg s cs ∈ h1.L → β s = β0 s) → regionX P h1 ((σ.map (·.1)).zip sl) e h K →
    wpAnyHI r P .any ops (PostH r N rs vs β0 h0 w0 (thenH K (fun _ _ _ => False))) (Sat β0 h1) σ.length listed a w
  | [], listed, ol, m, sl, β, a, w, e, h, hB, _, _, _, hr, _, _, hw, hst, _, _, hk => by
    simp only [List.map_nil, List.zip_nil_left, regionX] at hk
    exact ⟨by simpa [schedB] using hB, β, e, h, hr, hw, hst, hk⟩
  | (t, i) :: σ, listed, ol, m, sl, β, a, w, e, h, hB, hol, hs, hfl, hr, hm, hgm, hw, hst, hgr, hag, hk => by
    simp only [schedOps, List.mapM_cons, Option.bind_eq_bind, Option.bind_eq_some_iff, Option.pure_def, Option.some.injEq] at hol
    obtain ⟨o, ho, ol', hol', rfl⟩ := hol
    have hdo : dstOk rs o = true := by
      have := Array.all_eq_true.1 hdst i (Array.getElem?_eq_some_iff.1 ho).1
      rw [(Array.getElem?_eq_some_iff.1 ho).2] at this
      exact this
    have hgm9 : ∀ x ∈ m, ∀ p, x.g = some p → p.1 < 99999 := fun x hx p hp => Nat.lt_of_lt_of_le (hgm x hx p hp) hN
    have hS : Sat β0 h1 w := sat_agree hag (sat_grow hgr hw)
    -- one operation is left out
    have skip : ∀ {s m' c d0 b sl'}, slim1 P N rs vs m (some (d0, b)) o = some (s, m', c) → d0 < N → skipOk rs vs m m' (some (d0, b)) o = true → gOk (e d0) b = false → slimL P N rs vs ops ol' m' = some sl' → schedB .any ops σ (listed.setIfInBounds i true) = true →
        (((σ.map (·.1)).zip sl').all fun p => !p.1 || notCall p.2.s) = true → regionX P h1 ((σ.map (·.1)).zip sl') (e.set (skipD vs o) undef) h K →
        wpAnyHI r P .any ops (PostH r N rs vs β0 h0 w0 (thenH K (fun _ _ _ => False))) (Sat β0 h1) σ.length (listed.setIfInBounds i true) (a.put o.dst undef) w := by
      intro s m' c d0 b sl' q1 q2 q3 q4 q5 q6 q7 q8
      have hsn := skip_sound (o := o) q3 hN hr hm q4 (slim1_vs q1 (fun x hx => (hm.ok x hx).1))
      exact sched_sound hN hsel hnd hdst σ _ ol' m' sl' β _ w _ h q6 hol' q5 q7 hsn.1 hsn.2 (slim1_gm q1 hgm (fun p hp => by cases hp; exact q2)) hw hst hgr hag q8
    -- one that reads
    have take : ∀ {s m' c g sl'}, slim1 P N rs vs m g o = some (s, m', c) → (∀ p, g = some p → p.1 < N) → (g = none ∨ ∃ d b, g = some (d, b) ∧ gOk (e d) b = true) → Region.wanted o (yielded ops a.tmps) = true → notCall s = true → slimL P N rs vs ops ol' m' = some sl' →
        (Region.ready .any ops listed).contains i = true → Region.free .any ops listed i = true → schedB .any ops σ (listed.setIfInBounds i true) = true → (((σ.map (·.1)).zip sl').all fun p => !p.1 || notCall p.2.s) = true →
        opQC P c s e h1 (fun e => regionX P h1 ((σ.map (·.1)).zip sl') e h K) → wpAnyHI r P .any ops (PostH r N rs vs β0 h0 w0 (thenH K (fun _ _ _ => False))) (Sat β0 h1) (σ.length + 1) listed a w := by
      intro s m' c g sl' q1 q2 q3 qw q4 q5 q6 q7 q8 q9 q10
      have hC : ∀ w, Sat β0 h1 w → Sat β h1 w := fun w hs => sat_agree (fun s cs hm => (hag s cs hm).symm) hs
      obtain ⟨v, hv, e', z1, z2, z3⟩ := op1_yld (C := Sat β0 h1) q1 hN (rel_grow hgr hr) hC q4 q10 hm hgm9 q3
      refine wpAnyHI_first hnd ho (Region.noSelect_spec hsel) (fun c a w hq => by obtain ⟨_, _, _, _, _, _, hf⟩ := hq; exact hf.elim) σ.length listed a w (Region.free_spec ho q7) (by simpa using q6) (.inl ⟨qw, hv⟩) hS ?_
      exact sched_sound hN hsel hnd hdst σ _ ol' m' sl' β _ w e' h q8 hol' q5 q9 (rel_back hgr hdo hr z1) z2 (slim1_gm q1 hgm q2) hw hst hgr hag z3
    -- one that has to come
    have force : ∀ {s m' c g sl'}, slim1 P N rs vs m g o = some (s, m', c) → (∀ p, g = some p → p.1 < N) → (g = none ∨ ∃ d b, g = some (d, b) ∧ gOk (e d) b = true) → slimL P N rs vs ops ol' m' = some sl' →
        schedB .any ops σ (listed.setIfInBounds i true) = true → (((σ.map (·.1)).zip sl').all fun p => !p.1 || notCall p.2.s) = true →
        opC P c s e h (fun e h => Grow h1 h ∧ regionX P h1 ((σ.map (·.1)).zip sl') e h K) → o.wpIn (Fr r) 0 P a w (fun a' w' => Sat β0 h1 w' ∧ wpAnyHI r P .any ops (PostH r N rs vs β0 h0 w0 (thenH K (fun _ _ _ => False))) (Sat β0 h1) σ.length (listed.setIfInBounds i true) a' w') (PostH r N rs vs β0 h0 w0 (thenH K (fun _ _ _ => False))) := by
      intro s m' c g sl' q1 q2 q3 q5 q8 q9 q10
      refine wpIn_mono' (wpIn_put (hnd i o ho) (op1_sound (Q := PostH r N rs vs β0 h0 w0 (thenH K (fun _ _ _ => False))) q1 hN hr hw q10 hm hgm9 q3)) ?_
      rintro a' w' ⟨⟨β', e', h', r1, r2, r3, r4, r5, r6⟩, v, hv⟩
      have hag' : ∀ s cs, Item.reg s cs ∈ h1.L → β' s = β0 s := fun s cs hm => by
        obtain ⟨p1, p2, p3⟩ := hr.reg s cs (hgr.2.1.subset hm)
        obtain ⟨n1, n2, n3⟩ := r1.reg s cs (r5.2.1.subset hm)
        rw [hv, put_ne (by simpa using p1.1) hdo, p3] at n3
        injection n3 with n3
        injection n3 with n3
        injection n3 with n3
        rw [← n3]
        exact hag s cs hm
      exact ⟨sat_agree hag' (sat_grow r5 r3), sched_sound hN hsel hnd hdst σ _ ol' m' sl' β' a' w' e' h' q8 hol' q5 q9 r1 r2 (slim1_gm q1 hgm q2) r3 (hst.trans r4) r5 hag' r6⟩
    unfold slimL at hs
    split at hs
    · rename_i hg
      simp only [Option.bind_eq_some_iff, Option.map_eq_some_iff] at hs
      obtain ⟨⟨s, m', c⟩, q1, sl', q5, rfl⟩ := hs
      have hw1 : Region.wanted o (yielded ops a.tmps) = true := by simp [Region.wanted, hg]
      simp only [List.map_cons, List.zip_cons_cons, List.all_cons, Bool.and_eq_true] at hfl
      cases t with
      | true =>
        simp only [schedB, Bool.and_eq_true] at hB
        simp only [List.map_cons, List.zip_cons_cons, regionX] at hk
        exact take q1 (fun p hp => by cases hp) (.inl rfl) hw1 (by simpa using hfl.1) q5 hB.1.1 hB.1.2 hB.2 hfl.2 hk
      | false =>
        simp only [schedB, Bool.and_eq_true, decide_eq_true_eq] at hB
        simp only [List.map_cons, List.zip_cons_cons, regionX] at hk
        refine ⟨fun h0 => (by rw [hB.1] at h0; cases h0), fun j hj => ?_⟩
        rw [hB.1] at hj
        have hji : j = i := by simpa using hj
        subst hji
        unfold wpOpIn
        simp only [ho, hw1, if_true]
        exact force q1 (fun p hp => by cases hp) (.inl rfl) q5 hB.2 hfl.2 hk
    · rename_i j0 b hg
      simp only [Option.bind_eq_some_iff] at hs
      obtain ⟨d0, hd0, hs⟩ := hs
      split at hs
      · rename_i hdc
        simp only [Option.bind_eq_some_iff] at hs
        obtain ⟨⟨s, m', c⟩, q1, hs⟩ := hs
        split at hs
        · rename_i hsk
          simp only [Option.map_eq_some_iff] at hs
          obtain ⟨sl', q5, rfl⟩ := hs
          have hwi := wanted_iff hr (by simpa [Option.bind_eq_some_iff] using hd0) hdc.1 hdc.2 hg
          simp only [List.map_cons, List.zip_cons_cons, List.all_cons, Bool.and_eq_true] at hfl
          cases t with
          | true =>
            simp only [schedB, Bool.and_eq_true] at hB
            simp only [List.map_cons, List.zip_cons_cons, regionX] at hk
            by_cases hgo : gOk (e d0) b = true
            · rw [if_pos hgo] at hk
              exact take q1 (fun p hp => by cases hp; exact hdc.1) (.inr ⟨d0, b, rfl, hgo⟩) (by rw [hwi]; exact hgo) (by simpa using hfl.1) q5 hB.1.1 hB.1.2 hB.2 hfl.2 hk
            · rw [if_neg hgo] at hk
              have hgf : gOk (e d0) b = false := by simpa using hgo
              exact wpAnyHI_first hnd ho (Region.noSelect_spec hsel) (fun c a w hq => by obtain ⟨_, _, _, _, _, _, hf⟩ := hq; exact hf.elim) σ.length listed a w (Region.free_spec ho hB.1.2) (by simpa using hB.1.1) (.inr ⟨by rw [hwi]; exact hgf, rfl⟩) hS
                (skip q1 hdc.1 hsk hgf q5 hB.2 hfl.2 hk)
          | false =>
            simp only [schedB, Bool.and_eq_true, decide_eq_true_eq] at hB
            simp only [List.map_cons, List.zip_cons_cons, regionX] at hk
            refine ⟨fun h0 => (by rw [hB.1] at h0; cases h0), fun j hj => ?_⟩
            rw [hB.1] at hj
            have hji : j = i := by simpa using hj
            subst hji
            unfold wpOpIn
            by_cases hgo : gOk (e d0) b = true
            · rw [if_pos hgo] at hk
              simp only [ho, hwi, hgo, if_true]
              exact force q1 (fun p hp => by cases hp; exact hdc.1) (.inr ⟨d0, b, rfl, hgo⟩) q5 hB.2 hfl.2 hk
            · rw [if_neg hgo] at hk
              have hgf : gOk (e d0) b = false := by simpa using hgo
              simp only [ho, hwi, hgf, Bool.false_eq_true, if_false]
              exact ⟨fun _ _ => trivial, hS, skip q1 hdc.1 hsk hgf q5 hB.2 hfl.2 hk⟩
        · cases hs
      · cases hs
/-! The same with an end whose order is forced. -/
def schedYB (md : Region.Mode) (ops : Array Oper) (n : Nat) : List (Bool × Nat) → Array Bool → Bool
  | [], listed => Region.seqB md ops (ops.size - n) n listed
  | (true, i) :: l, listed => decide (i < n) && (Region.ready md ops listed).contains i && Region.free md ops listed i && schedYB md ops n l (listed.setIfInBounds i true)
  | (false, i) :: l, listed => decide (i < n) && decide (Region.ready md ops listed = [i]) && schedYB md ops n l (listed.setIfInBounds i true)
def wpAnyHL (r : Option Nat) (P : Program) (md : Region.Mode) (ops : Array Oper) (Q : Exit → Act → World → Prop) (S : World → Prop) (n : Nat) (L : Array Bool → Act → World → Prop) : Nat → Array Bool → Act → World → Prop
  | 0, listed, a, w => L listed a w
  | fuel + 1, listed, a, w =>
    Region.ready md ops listed ≠ [] ∧ ∀ i ∈ Region.ready md ops listed, i < n ∧ wpOpIn (Fr r) 0 P ops Q i (fun a' w' => S w' ∧ wpAnyHL r P md ops Q S n L fuel (listed.setIfInBounds i true) a' w') a w
theorem wpAnyIn_of_headH {md : Region.Mode} {ops : Array Oper} {Q : Exit → Act → World → Prop} {S : World → Prop} {n g : Nat} {L : Array Bool → Act → World → Prop} (hL : ∀ listed a w, L listed a w → wpAnyIn (Fr r) 0 P md ops Q g listed a w) :
    ∀ (f : Nat) (listed : Array Bool) (a : Act) (w : World), wpAnyHL r P md ops Q S n L f listed a w → wpAnyIn (Fr r) 0 P md ops Q (f + g) listed a w
  | 0, listed, a, w, h => by rw [Nat.zero_add]; exact hL _ _ _ h
  | f + 1, listed, a, w, h => by
    rw [show f + 1 + g = (f + g) + 1 by omega]
    exact ⟨fun h0 => absurd h0 h.1, fun i hi => wpOpIn_mono (fun a' w' h' => wpAnyIn_of_headH hL f _ a' w' h'.2) (h.2 i hi).2⟩
theorem wpAnyHL_first {md : Region.Mode} {ops : Array Oper} {Q : Exit → Act → World → Prop} {S : World → Prop} {n i : Nat} {oi : Oper} {v : Value} {L : Array Bool → Act → World → Prop} (hd : ∀ (j : Nat) (o : Oper), ops[j]? = some o → nodefer o) (hi : ops[i]? = some oi) (hsel : ∀ (j : Nat) (o : Oper) cs b, ops[j]? = some o → o.op ≠ .select cs b)
    (hQ : ∀ c a w, Q (.panic c) (a.put oi.dst v) w → Q (.panic c) a w) (hs : Region.sinkB md ops n = true) (hc : Region.chainB md ops n = true) (hn : n < ops.size) (hin : i < n)
    (hdone : ∀ listed a w, L listed a w → ∀ j ∈ Region.ready md ops listed, n ≤ j) :
    ∀ (fuel : Nat) (listed : Array Bool) (a : Act) (w : World), HeadInv md ops n listed →
      (∀ j oj, ops[j]? = some oj → j ≠ i → listed.getD j true = false → (∀ e ∈ oj.after, Region.binds md e = true → e.on ≠ i) → oi.apart ops oj = true) →
      i ∈ Region.ready md ops listed → YieldsIf P ops S oi v a → S w →
      wpAnyHL r P md ops Q S n L fuel (listed.setIfInBounds i true) (a.put oi.dst v) w → wpAnyHL r P md ops Q S n L (fuel + 1) listed a w := by
  intro fuel
  induction fuel with
  | zero =>
    intro listed a w inv _ hr hy hS H
    have hun := (mem_ready.1 hr).1
    refine ⟨fun h => (by rw [h] at hr; cases hr), fun j hj => ?_⟩
    have hjn : j < n := by
      rcases Nat.lt_or_ge j n with h | h
      · exact h
      · exact absurd hj (tail_waits hs hc hn inv _ i rfl hin hun j h)
    refine ⟨hjn, ?_⟩
    by_cases hji : j = i
    · subst hji; exact yld_wpOpIn (hd _ _ hi) hi hy hS ⟨hS, H⟩
    · have := hdone _ _ _ H j (ready_mono hj hji)
      omega
  | succ fuel ih =>
    intro listed a w inv hfree hr hy hS H
    have hun := (mem_ready.1 hr).1
    refine ⟨fun h => (by rw [h] at hr; cases hr), fun j hj => ?_⟩
    have hjn : j < n := by
      rcases Nat.lt_or_ge j n with h | h
      · exact h
      · exact absurd hj (tail_waits hs hc hn inv _ i rfl hin hun j h)
    refine ⟨hjn, ?_⟩
    by_cases hji : j = i
    · subst hji; exact yld_wpOpIn (hd _ _ hi) hi hy hS ⟨hS, H⟩
    · have h1 := (H.2 j (ready_mono hj hji)).2
      obtain ⟨hjun, oj, hoj, hall⟩ := mem_ready.1 hj
      have hnot : ∀ e ∈ oj.after, Region.binds md e = true → e.on ≠ i := fun e he hb heq => by
        have h1 := hall e he hb
        rw [heq, getD_both hun] at h1
        cases h1
      have h2 := wpOpIn_putIf (hd _ _ hoj) hoj (hfree j oj hoj hji hjun hnot) (fun cs b => hsel i oi cs b hi) (fun cs b => hsel j oj cs b hoj) hQ hy h1
      have hfree' : ∀ k ok, ops[k]? = some ok → k ≠ i → (listed.setIfInBounds j true).getD k true = false →
          (∀ e ∈ ok.after, Region.binds md e = true → e.on ≠ i) → oi.apart ops ok = true := fun k ok hk hki hun hno => by
        refine hfree k ok hk hki ?_ hno
        by_cases hjk : j = k
        · subst hjk; exact hjun
        · rw [getD_set_ne true hjk] at hun; exact hun
      refine wpOpIn_mono (fun a' w' h3 => ⟨h3.2.1, ih (listed.setIfInBounds j true) a' w' (inv.set hj hjn) hfree' (ready_mono hr (Ne.symm hji)) h3.1 h3.2.1 ?_⟩) h2
      rw [Array.setIfInBounds_comm _ _ hji]
      exact h3.2.2
theorem schedY_sound {ops : Array Oper} {n : Nat} (hN : N ≤ 99999) (hsel : Region.noSelect ops = true) (hnd : ∀ (j : Nat) (o : Oper), ops[j]? = some o → nodefer o) (hdst : ops.all (dstOk rs) = true) (hsk : Region.sinkB .any ops n = true) (hch : Region.chainB .any ops n = true) (hn : n < ops.size) {β0 : Nat → Nat} {h0 h1 : H} {w0 : World} :
    ∀ (σ : List (Bool × Nat)) (listed : Array Bool) (ol : List Oper) (m : List ME) (sl : List SI) (β : Nat → Nat) (a : Act) (w : World) (e : Env) (h : H), schedYB .any ops n σ listed = true → HeadInv .any ops n listed → schedOps ops σ = some ol → slimL P N rs vs ops (ol ++ ops.toList.drop n) m = some sl →
    (((σ.map (·.1)).zip sl).all fun p => !p.1 || notCall p.2.s) = true → Rel r N rs vs β a e h → MapOk N rs vs β a e m → GM N m → Sat β h w → Step β0 h0 w0 β h w → Grow h1 h → (∀ s cs, Item.reg s cs ∈ h1.L → β s = β0 s) → regionX P h1 ((σ.map (·.1)).zip sl) e h (fun e h => regionH P (sl.drop σ.length) e h K) →
    wpAnyHL r P .any ops (PostH r N rs vs β0 h0 w0 (thenH K (fun _ _ _ => False))) (Sat β0 h1) n (fun listed' a' w' => Region.seqB .any ops (ops.size - n) n listed' = true ∧ wpOpsIn (Fr r) 0 P ops (PostH r N rs vs β0 h0 w0 (thenH K (fun _ _ _ => False))) (List.range' n (ops.size - n)) a' w') σ.length listed a w
  | [], listed, ol, m, sl, β, a, w, e, h, hB, hinv, hol, hs, _, hr, hm, hgm, hw, hst, _, _, hk => by
    simp only [List.map_nil, List.zip_nil_left, regionX, List.length_nil, List.drop_zero] at hk
    simp only [schedOps, List.mapM_nil, Option.pure_def, Option.some.injEq] at hol
    subst hol
    refine ⟨by simpa [schedYB] using hB, ?_⟩
    have hso := ops_sound (P := P) (Q := fun _ _ _ => False) (all := ops) (K := K) hN (ops.toList.drop n) n m sl β a w e h (fun j => by simp [List.getElem?_drop]) (by simpa using hs) hr hm hgm hw hst hk
    have hlen : (ops.toList.drop n).length = ops.size - n := by simp
    rw [hlen] at hso
    exact hso
  | (t, i) :: σ, listed, ol, m, sl, β, a, w, e, h, hB, hinv, hol, hs, hfl, hr, hm, hgm, hw, hst, hgr, hag, hk => by
    simp only [schedOps, List.mapM_cons, Option.bind_eq_bind, Option.bind_eq_some_iff, Option.pure_def, Option.some.injEq] at hol
    obtain ⟨o, ho, ol', hol', rfl⟩ := hol
    have hdo : dstOk rs o = true := by
      have := Array.all_eq_true.1 hdst i (Array.getElem?_eq_some_iff.1 ho).1
      rw [(Array.getElem?_eq_some_iff.1 ho).2] at this
      exact this
    have hgm9 : ∀ x ∈ m, ∀ p, x.g = some p → p.1 < 99999 := fun x hx p hp => Nat.lt_of_lt_of_le (hgm x hx p hp) hN
    have hS : Sat β0 h1 w := sat_agree hag (sat_grow hgr hw)
    -- one operation is left out
    have skip : ∀ {s m' c d0 b sl'}, slim1 P N rs vs m (some (d0, b)) o = some (s, m', c) → d0 < N → skipOk rs vs m m' (some (d0, b)) o = true → gOk (e d0) b = false → slimL P N rs vs ops (ol' ++ ops.toList.drop n) m' = some sl' → schedYB .any ops n σ (listed.setIfInBounds i true) = true →
        (((σ.map (·.1)).zip sl').all fun p => !p.1 || notCall p.2.s) = true → HeadInv .any ops n (listed.setIfInBounds i true) → regionX P h1 ((σ.map (·.1)).zip sl') (e.set (skipD vs o) undef) h (fun e h => regionH P (sl'.drop σ.length) e h K) →
        wpAnyHL r P .any ops (PostH r N rs vs β0 h0 w0 (thenH K (fun _ _ _ => False))) (Sat β0 h1) n (fun listed' a' w' => Region.seqB .any ops (ops.size - n) n listed' = true ∧ wpOpsIn (Fr r) 0 P ops (PostH r N rs vs β0 h0 w0 (thenH K (fun _ _ _ => False))) (List.range' n (ops.size - n)) a' w') σ.length (listed.setIfInBounds i true) (a.put o.dst undef) w := by
      intro s m' c d0 b sl' q1 q2 q3 q4 q5 q6 q7 qi q8
      have hsn := skip_sound (o := o) q3 hN hr hm q4 (slim1_vs q1 (fun x hx => (hm.ok x hx).1))
      exact schedY_sound hN hsel hnd hdst hsk hch hn σ _ ol' m' sl' β _ w _ h q6 qi hol' q5 q7 hsn.1 hsn.2 (slim1_gm q1 hgm (fun p hp => by cases hp; exact q2)) hw hst hgr hag q8
    -- one that reads
    have take : ∀ {s m' c g sl'}, slim1 P N rs vs m g o = some (s, m', c) → (∀ p, g = some p → p.1 < N) → (g = none ∨ ∃ d b, g = some (d, b) ∧ gOk (e d) b = true) → Region.wanted o (yielded ops a.tmps) = true → notCall s = true → slimL P N rs vs ops (ol' ++ ops.toList.drop n) m' = some sl' →
        (Region.ready .any ops listed).contains i = true → Region.free .any ops listed i = true → schedYB .any ops n σ (listed.setIfInBounds i true) = true → (((σ.map (·.1)).zip sl').all fun p => !p.1 || notCall p.2.s) = true →
        opQC P c s e h1 (fun e => regionX P h1 ((σ.map (·.1)).zip sl') e h (fun e h => regionH P (sl'.drop σ.length) e h K)) → i < n → HeadInv .any ops n (listed.setIfInBounds i true) → wpAnyHL r P .any ops (PostH r N rs vs β0 h0 w0 (thenH K (fun _ _ _ => False))) (Sat β0 h1) n (fun listed' a' w' => Region.seqB .any ops (ops.size - n) n listed' = true ∧ wpOpsIn (Fr r) 0 P ops (PostH r N rs vs β0 h0 w0 (thenH K (fun _ _ _ => False))) (List.range' n (ops.size - n)) a' w') (σ.length + 1) listed a w := by
      intro s m' c g sl' q1 q2 q3 qw q4 q5 q6 q7 q8 q9 q10 qn qi
      have hC : ∀ w, Sat β0 h1 w → Sat β h1 w := fun w hs => sat_agree (fun s cs hm => (hag s cs hm).symm) hs
      obtain ⟨v, hv, e', z1, z2, z3⟩ := op1_yld (C := Sat β0 h1) q1 hN (rel_grow hgr hr) hC q4 q10 hm hgm9 q3
      refine wpAnyHL_first hnd ho (Region.noSelect_spec hsel) (fun c a w hq => by obtain ⟨_, _, _, _, _, _, hf⟩ := hq; exact hf.elim) hsk hch hn qn (fun listed a w hL => seqB_ready hL.1) σ.length listed a w hinv (Region.free_spec ho q7) (by simpa using q6) (.inl ⟨qw, hv⟩) hS ?_
      exact schedY_sound hN hsel hnd hdst hsk hch hn σ _ ol' m' sl' β _ w e' h q8 qi hol' q5 q9 (rel_back hgr hdo hr z1) z2 (slim1_gm q1 hgm q2) hw hst hgr hag z3
    -- one that has to come
    have force : ∀ {s m' c g sl'}, slim1 P N rs vs m g o = some (s, m', c) → (∀ p, g = some p → p.1 < N) → (g = none ∨ ∃ d b, g = some (d, b) ∧ gOk (e d) b = true) → slimL P N rs vs ops (ol' ++ ops.toList.drop n) m' = some sl' →
        schedYB .any ops n σ (listed.setIfInBounds i true) = true → (((σ.map (·.1)).zip sl').all fun p => !p.1 || notCall p.2.s) = true →
        opC P c s e h (fun e h => Grow h1 h ∧ regionX P h1 ((σ.map (·.1)).zip sl') e h (fun e h => regionH P (sl'.drop σ.length) e h K)) → HeadInv .any ops n (listed.setIfInBounds i true) → o.wpIn (Fr r) 0 P a w (fun a' w' => Sat β0 h1 w' ∧ wpAnyHL r P .any ops (PostH r N rs vs β0 h0 w0 (thenH K (fun _ _ _ => False))) (Sat β0 h1) n (fun listed' a' w' => Region.seqB .any ops (ops.size - n) n listed' = true ∧ wpOpsIn (Fr r) 0 P ops (PostH r N rs vs β0 h0 w0 (thenH K (fun _ _ _ => False))) (List.range' n (ops.size - n)) a' w') σ.length (listed.setIfInBounds i true) a' w') (PostH r N rs vs β0 h0 w0 (thenH K (fun _ _ _ => False))) := by
      intro s m' c g sl' q1 q2 q3 q5 q8 q9 q10 qi
      refine wpIn_mono' (wpIn_put (hnd i o ho) (op1_sound (Q := PostH r N rs vs β0 h0 w0 (thenH K (fun _ _ _ => False))) q1 hN hr hw q10 hm hgm9 q3)) ?_
      rintro a' w' ⟨⟨β', e', h', r1, r2, r3, r4, r5, r6⟩, v, hv⟩
      have hag' : ∀ s cs, Item.reg s cs ∈ h1.L → β' s = β0 s := fun s cs hm => by
        obtain ⟨p1, p2, p3⟩ := hr.reg s cs (hgr.2.1.subset hm)
        obtain ⟨n1, n2, n3⟩ := r1.reg s cs (r5.2.1.subset hm)
        rw [hv, put_ne (by simpa using p1.1) hdo, p3] at n3
        injection n3 with n3
        injection n3 with n3
        injection n3 with n3
        rw [← n3]
        exact hag s cs hm
      exact ⟨sat_agree hag' (sat_grow r5 r3), schedY_sound hN hsel hnd hdst hsk hch hn σ _ ol' m' sl' β' a' w' e' h' q8 qi hol' q5 q9 r1 r2 (slim1_gm q1 hgm q2) r3 (hst.trans r4) r5 hag' r6⟩
    rw [List.cons_append] at hs
    unfold slimL at hs
    split at hs
    · rename_i hg
      simp only [Option.bind_eq_some_iff, Option.map_eq_some_iff] at hs
      obtain ⟨⟨s, m', c⟩, q1, sl', q5, rfl⟩ := hs
      have hw1 : Region.wanted o (yielded ops a.tmps) = true := by simp [Region.wanted, hg]
      simp only [List.map_cons, List.zip_cons_cons, List.all_cons, Bool.and_eq_true] at hfl
      cases t with
      | true =>
        simp only [schedYB, Bool.and_eq_true, decide_eq_true_eq] at hB
        simp only [List.map_cons, List.zip_cons_cons, List.length_cons, List.drop_succ_cons, regionX] at hk
        exact take q1 (fun p hp => by cases hp) (.inl rfl) hw1 (by simpa using hfl.1) q5 hB.1.1.2 hB.1.2 hB.2 hfl.2 hk hB.1.1.1 (hinv.set (by simpa using hB.1.1.2) hB.1.1.1)
      | false =>
        simp only [schedYB, Bool.and_eq_true, decide_eq_true_eq] at hB
        simp only [List.map_cons, List.zip_cons_cons, List.length_cons, List.drop_succ_cons, regionX] at hk
        refine ⟨fun h0 => (by rw [hB.1.2] at h0; cases h0), fun j hj => ?_⟩
        rw [hB.1.2] at hj
        have hji : j = i := by simpa using hj
        subst hji
        have hri : j ∈ Region.ready .any ops listed := by rw [hB.1.2]; simp
        refine ⟨hB.1.1, ?_⟩
        unfold wpOpIn
        simp only [ho, hw1, if_true]
        exact force q1 (fun p hp => by cases hp) (.inl rfl) q5 hB.2 hfl.2 hk (hinv.set hri hB.1.1)
    · rename_i j0 b hg
      simp only [Option.bind_eq_some_iff] at hs
      obtain ⟨d0, hd0, hs⟩ := hs
      split at hs
      · rename_i hdc
        simp only [Option.bind_eq_some_iff] at hs
        obtain ⟨⟨s, m', c⟩, q1, hs⟩ := hs
        split at hs
        · rename_i hsk'
          simp only [Option.map_eq_some_iff] at hs
          obtain ⟨sl', q5, rfl⟩ := hs
          have hwi := wanted_iff hr (by simpa [Option.bind_eq_some_iff] using hd0) hdc.1 hdc.2 hg
          simp only [List.map_cons, List.zip_cons_cons, List.all_cons, Bool.and_eq_true] at hfl
          cases t with
          | true =>
            simp only [schedYB, Bool.and_eq_true, decide_eq_true_eq] at hB
            simp only [List.map_cons, List.zip_cons_cons, List.length_cons, List.drop_succ_cons, regionX] at hk
            by_cases hgo : gOk (e d0) b = true
            · rw [if_pos hgo] at hk
              exact take q1 (fun p hp => by cases hp; exact hdc.1) (.inr ⟨d0, b, rfl, hgo⟩) (by rw [hwi]; exact hgo) (by simpa using hfl.1) q5 hB.1.1.2 hB.1.2 hB.2 hfl.2 hk hB.1.1.1 (hinv.set (by simpa using hB.1.1.2) hB.1.1.1)
            · rw [if_neg hgo] at hk
              have hgf : gOk (e d0) b = false := by simpa using hgo
              exact wpAnyHL_first hnd ho (Region.noSelect_spec hsel) (fun c a w hq => by obtain ⟨_, _, _, _, _, _, hf⟩ := hq; exact hf.elim) hsk hch hn hB.1.1.1 (fun listed a w hL => seqB_ready hL.1) σ.length listed a w hinv (Region.free_spec ho hB.1.2) (by simpa using hB.1.1.2) (.inr ⟨by rw [hwi]; exact hgf, rfl⟩) hS
                (skip q1 hdc.1 hsk' hgf q5 hB.2 hfl.2 (hinv.set (by simpa using hB.1.1.2) hB.1.1.1) hk)
          | false =>
            simp only [schedYB, Bool.and_eq_true, decide_eq_true_eq] at hB
            simp only [List.map_cons, List.zip_cons_cons, List.length_cons, List.drop_succ_cons, regionX] at hk
            refine ⟨fun h0 => (by rw [hB.1.2] at h0; cases h0), fun j hj => ?_⟩
            rw [hB.1.2] at hj
            have hji : j = i := by simpa using hj
            subst hji
            have hri : j ∈ Region.ready .any ops listed := by rw [hB.1.2]; simp
            refine ⟨hB.1.1, ?_⟩
            unfold wpOpIn
            by_cases hgo : gOk (e d0) b = true
            · rw [if_pos hgo] at hk
              simp only [ho, hwi, hgo, if_true]
              exact force q1 (fun p hp => by cases hp; exact hdc.1) (.inr ⟨d0, b, rfl, hgo⟩) q5 hB.2 hfl.2 hk (hinv.set hri hB.1.1)
            · rw [if_neg hgo] at hk
              have hgf : gOk (e d0) b = false := by simpa using hgo
              simp only [ho, hwi, hgf, Bool.false_eq_true, if_false]
              exact ⟨fun _ _ => trivial, hS, skip q1 hdc.1 hsk' hgf q5 hB.2 hfl.2 (hinv.set hri hB.1.1) hk⟩
        · cases hs
      · cases hs
/-- **A region whose order is open, with calls that make memory.** -/
theorem wpH_regionX {Q : Exit → Env → H → Prop} {e : Env} {h : H} {id : Nat} {ops : Array Oper} {ol : List Oper} {sl : List SI} (σ : List (Bool × Nat)) (L1 : List Item) (hL : L1.Sublist h.L) (hmix : P.follows .mixedOrders = true) (hsel : Region.noSelect ops = true) (hnd : noDefer ops = true) (hdst : ops.all (dstOk rs) = true)
    (hB : schedB .any ops σ (Array.replicate ops.size false) = true) (hlen : σ.length = ops.size) (hol : schedOps ops σ = some ol) (hN : N ≤ 99999) (hs : slimL P N rs vs ops ol [] = some sl) (hfl : (((σ.map (·.1)).zip sl).all fun p => !p.1 || notCall p.2.s) = true)
    (hk : regionX P ⟨h.G, L1, h.D⟩ ((σ.map (·.1)).zip sl) e h fun e h => Q .normal e h) : wpH r P N rs vs (.region id ops true) Q e h := by
  intro β a w hr hw
  refine wpIn_mono (Q := PostH r N rs vs β h w (thenH (fun e h => Q .normal e h) (fun _ _ _ => False))) (wpIn_region_any hmix ?_) (fun x a w ⟨β', e', h', q1, q2, q3, q4⟩ => ⟨β', e', h', q1, q2, q3, by cases x <;> first | exact q4 | exact q4.elim⟩)
  rw [← hlen]
  refine wpAnyIn_of_held (S := Sat β ⟨h.G, L1, h.D⟩) _ _ _ _ ?_
  refine sched_sound hN hsel (noDefer_spec hnd) hdst σ _ ol [] sl β a _ e h ?_ hol hs hfl hr ⟨fun x hx => by cases hx⟩ (fun x hx => by cases hx) ⟨hw.g, hw.l, hw.nd, hw.df, hw.d⟩ ⟨rfl, rfl, rfl, Nat.le_refl _, fun _ _ _ => rfl, fun _ _ h => h, fun _ h h' => absurd h h', fun _ h => .inl h, [], rfl, by simp⟩ ⟨fun _ _ h => h, hL, rfl⟩ (fun _ _ _ => rfl) hk
  rw [hlen]
  exact hB
/-- **The same, with an end whose order is forced.** -/
theorem wpH_regionY {Q : Exit → Env → H → Prop} {e : Env} {h : H} {id : Nat} {ops : Array Oper} {ol : List Oper} {sl : List SI} (n : Nat) (σ : List (Bool × Nat)) (L1 : List Item) (hL : L1.Sublist h.L) (hmix : P.follows .mixedOrders = true) (hsel : Region.noSelect ops = true) (hnd : noDefer ops = true) (hdst : ops.all (dstOk rs) = true)
    (hsk : Region.sinkB .any ops n = true) (hch : Region.chainB .any ops n = true) (hn : n < ops.size)
    (hB : schedYB .any ops n σ (Array.replicate ops.size false) = true) (hlen : σ.length = n) (hol : schedOps ops σ = some ol) (hN : N ≤ 99999) (hs : slimL P N rs vs ops (ol ++ ops.toList.drop n) [] = some sl) (hfl : (((σ.map (·.1)).zip sl).all fun p => !p.1 || notCall p.2.s) = true)
    (hk : regionX P ⟨h.G, L1, h.D⟩ ((σ.map (·.1)).zip sl) e h fun e h => regionH P (sl.drop n) e h fun e h => Q .normal e h) : wpH r P N rs vs (.region id ops true) Q e h := by
  intro β a w hr hw
  refine wpIn_mono (Q := PostH r N rs vs β h w (thenH (fun e h => Q .normal e h) (fun _ _ _ => False))) (wpIn_region_any hmix ?_) (fun x a w ⟨β', e', h', q1, q2, q3, q4⟩ => ⟨β', e', h', q1, q2, q3, by cases x <;> first | exact q4 | exact q4.elim⟩)
  have inv0 : HeadInv .any ops n (Array.replicate ops.size false) :=
    ⟨by simp, fun j oj _ hl => (by rw [getD_replicate_false] at hl; cases hl), fun t _ ht => getD_in (by simpa using ht) (getD_replicate_false _ _)⟩
  have H := schedY_sound (r := r) (K := fun e h => Q .normal e h) hN hsel (noDefer_spec hnd) hdst hsk hch hn (β0 := β) (h0 := h) (h1 := ⟨h.G, L1, h.D⟩) (w0 := w) σ _ ol [] sl β a { w with drawn := w.drawn + 1 } e h hB inv0 hol hs hfl hr ⟨fun x hx => by cases hx⟩ (fun x hx => by cases hx) ⟨hw.g, hw.l, hw.nd, hw.df, hw.d⟩ ⟨rfl, rfl, rfl, Nat.le_refl _, fun _ _ _ => rfl, fun _ _ h => h, fun _ h h' => absurd h h', fun _ h => .inl h, [], rfl, by simp⟩ ⟨fun _ _ h => h, hL, rfl⟩ (fun _ _ _ => rfl) (by rw [hlen]; exact hk)
  have := wpAnyIn_of_headH (g := ops.size - n) (fun listed a' w' ⟨hseq, hops⟩ => wpAnyIn_of_seq _ _ _ _ _ hseq hops) _ _ _ _ H
  rw [hlen, show n + (ops.size - n) = ops.size by omega] at this
  exact this
/-- An order, sought. -/
def schedGo (ops : Array Oper) (tk : Nat → Bool) : Nat → Array Bool → List (Bool × Nat) → List (Bool × Nat)
  | 0, _, acc => acc.reverse
  | f + 1, listed, acc =>
    match Region.ready .any ops listed with
    | [] => acc.reverse
    | i :: is =>
      match (i :: is).find? fun j => tk j && Region.free .any ops listed j with
      | some j => schedGo ops tk f (listed.setIfInBounds j true) ((true, j) :: acc)
      | none => schedGo ops tk f (listed.setIfInBounds i true) ((false, i) :: acc)
end sched
end Go.Kx
