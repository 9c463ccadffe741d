/- The text behind the eleventh of the small logic: regions whose order is open, but for what ends them. No condition. -/
import Derived.Test.YtdiccicokbbcoaaKb
import Derived.StillTail
set_option linter.unusedSimpArgs false
set_option linter.unusedVariables false
namespace Go.Kx
open Go Go.RowKit

section any
variable {r : Option Nat} {P : Program} {md : Region.Mode} {ops : Array Oper} {C : World → Prop}
def wpAnyQL (P : Program) (md : Region.Mode) (ops : Array Oper) (C : World → Prop) (n : Nat) (L : Array Bool → Act → Prop) : Nat → Array Bool → Act → Prop
  | 0, listed, a => L listed a
  | f + 1, listed, a =>
    Region.ready md ops listed ≠ [] ∧ ∀ i ∈ Region.ready md ops listed, i < n ∧ qOp P ops C i (wpAnyQL P md ops C n L f (listed.setIfInBounds i true)) a
theorem wpAnyIn_of_headQ {n g : Nat} {L : Array Bool → Act → Prop} {Q' : Exit → Act → World → Prop} (hd : ∀ (j : Nat) (o : Oper), ops[j]? = some o → nodefer o) (hL : ∀ listed a w, C w → L listed a → wpAnyIn (Fr r) 0 P md ops Q' g listed a w) :
    ∀ (f : Nat) (listed : Array Bool) (a : Act) (w : World), C w → wpAnyQL P md ops C n L f listed a → wpAnyIn (Fr r) 0 P md ops Q' (f + g) listed a w
  | 0, listed, a, w, hC, h => by rw [Nat.zero_add]; exact hL _ _ _ hC h
  | f + 1, listed, a, w, hC, h => by
    rw [show f + 1 + g = (f + g) + 1 by omega]
    exact ⟨fun h0 => absurd h0 h.1, fun i hi => wpOpIn_of_qOp hd hC (fun a' w' hC' h' => wpAnyIn_of_headQ hd hL f _ a' w' hC' h') (h.2 i hi).2⟩
theorem wpAnyQL_first {n i : Nat} {oi : Oper} {v : Value} {L : Array Bool → Act → Prop} (hi : ops[i]? = some oi) (hsel : ∀ (j : Nat) (o : Oper) cs b, ops[j]? = some o → o.op ≠ .select cs b)
    (hs : Region.sinkB md ops n = true) (hc : Region.chainB md ops n = true) (hn : n < ops.size) (hin : i < n)
    (hdone : ∀ listed a, L listed a → ∀ j ∈ Region.ready md ops listed, n ≤ j) :
    ∀ (f : Nat) (listed : Array Bool) (a : Act), HeadInv md ops n listed →
      (∀ j oj, ops[j]? = some oj → j ≠ i → listed.getD j true = false → (∀ e ∈ oj.after, Region.binds md e = true → e.on ≠ i) → oi.apart ops oj = true) →
      i ∈ Region.ready md ops listed → YieldsIn P ops C oi v a →
      wpAnyQL P md ops C n L f (listed.setIfInBounds i true) (a.put oi.dst v) → wpAnyQL P md ops C n L (f + 1) listed a := by
  intro f
  induction f with
  | zero =>
    intro listed a inv _ hr hy H
    have hun := (mem_ready.1 hr).1
    refine ⟨fun h => (by rw [h] at hr; cases hr), fun j hj => ?_⟩
    have hjn : j < n := by
      rcases Nat.lt_or_ge j n with h | h
      · exact h
      · exact absurd hj (tail_waits hs hc hn inv _ i rfl hin hun j h)
    refine ⟨hjn, ?_⟩
    by_cases hji : j = i
    · subst hji; exact hy.qOp hi H
    · have := hdone _ _ H j (ready_mono hj hji)
      omega
  | succ f ih =>
    intro listed a inv hfree hr hy H
    have hun := (mem_ready.1 hr).1
    refine ⟨fun h => (by rw [h] at hr; cases hr), fun j hj => ?_⟩
    have hjn : j < n := by
      rcases Nat.lt_or_ge j n with h | h
      · exact h
      · exact absurd hj (tail_waits hs hc hn inv _ i rfl hin hun j h)
    refine ⟨hjn, ?_⟩
    by_cases hji : j = i
    · subst hji; exact hy.qOp hi H
    · have h1 := (H.2 j (ready_mono hj hji)).2
      obtain ⟨hjun, oj, hoj, hall⟩ := mem_ready.1 hj
      have hnot : ∀ e ∈ oj.after, Region.binds md e = true → e.on ≠ i := fun e he hb heq => by
        have h1 := hall e he hb
        rw [heq, getD_both hun] at h1
        cases h1
      have h2 := qOp_put hoj (hfree j oj hoj hji hjun hnot) (fun cs b => hsel i oi cs b hi) (fun cs b => hsel j oj cs b hoj) hy h1
      have hfree' : ∀ k ok, ops[k]? = some ok → k ≠ i → (listed.setIfInBounds j true).getD k true = false →
          (∀ e ∈ ok.after, Region.binds md e = true → e.on ≠ i) → oi.apart ops ok = true := fun k ok hk hki hun hno => by
        refine hfree k ok hk hki ?_ hno
        by_cases hjk : j = k
        · subst hjk; exact hjun
        · rw [getD_set_ne true hjk] at hun; exact hun
      refine qOp_mono (fun a' h3 => ih (listed.setIfInBounds j true) a' (inv.set hj hjn) hfree' (ready_mono hr (Ne.symm hji)) h3.1 ?_) h2
      rw [Array.setIfInBounds_comm _ _ hji]
      exact h3.2
theorem wpAnyIn_of_seq {Q' : Exit → Act → World → Prop} : ∀ (g k : Nat) (listed : Array Bool) (a : Act) (w : World),
    Region.seqB md ops g k listed = true → wpOpsIn (Fr r) 0 P ops Q' (List.range' k g) a w → wpAnyIn (Fr r) 0 P md ops Q' g listed a w
  | 0, _, _, _, _, hB, h => ⟨by simpa [Region.seqB] using hB, h⟩
  | g + 1, k, listed, a, w, hB, h => by
    simp only [Region.seqB, Bool.and_eq_true, decide_eq_true_eq] at hB
    refine ⟨fun h1 => (by rw [hB.1] at h1; cases h1), fun i hi => ?_⟩
    rw [hB.1] at hi
    have hik : i = k := by simpa using hi
    subst hik
    rw [List.range'_succ, wpOpsIn_cons] at h
    exact wpOpIn_mono (fun a' w' h' => wpAnyIn_of_seq g (i + 1) _ a' w' hB.2 h') h
theorem wpAnyQL_lex {n g : Nat} {Lq : Act → Prop} (hsel : Region.noSelect ops = true) (hs : Region.sinkB md ops n = true) (hc : Region.chainB md ops n = true) (hn : n < ops.size) :
    ∀ (l : List Oper) (k : Nat) (listed : Array Bool) (a : Act), (∀ j, j < l.length → l[j]? = ops[k + j]?) → k + l.length = n → HeadInv md ops n listed →
    Region.lexHead md ops g l.length k listed = true → wpQuiet P ops C Lq l a →
    wpAnyQL P md ops C n (fun listed' a' => Region.seqB md ops g n listed' = true ∧ Lq a') l.length listed a
  | [], k, listed, a, _, hk, _, hB, h => by
    have : k = n := by simpa using hk
    subst this
    exact ⟨by simpa [Region.lexHead] using hB, h⟩
  | o :: l, k, listed, a, hl, hk, inv, hB, h => by
    have h0 : ops[k]? = some o := by simpa using (hl 0 (by simp)).symm
    simp only [List.length_cons, Region.lexHead, Bool.and_eq_true] at hB
    obtain ⟨⟨hr, hf⟩, hB'⟩ := hB
    have hkn : k < n := by simp only [List.length_cons] at hk; omega
    have hr' : k ∈ Region.ready md ops listed := by simpa using hr
    have hst : qOp P ops C k (wpQuiet P ops C Lq l) a := by unfold qOp; simp only [h0]; exact h
    obtain ⟨v, hy, hK⟩ := yieldsIn_of_qOp h0 hst
    exact wpAnyQL_first h0 (Region.noSelect_spec hsel) hs hc hn hkn (fun listed' a' hL => seqB_ready hL.1) l.length listed a inv (Region.free_spec h0 hf) hr' hy
      (wpAnyQL_lex hsel hs hc hn l (k + 1) _ _ (fun j hj => by have := hl (j + 1) (by simp; omega); simpa [Nat.add_assoc, Nat.add_comm 1 j] using this) (by simp only [List.length_cons] at hk; omega) (inv.set hr' hkn) hB' hK)
end any

section quiet
variable {r : Option Nat} {P : Program} {N : Nat} {rs vs : List Nat} {β : Nat → Nat} {a : Act} {w : World} {e : Env} {h : H} {C : World → Prop} {K : Env → Prop}
theorem ops_quietT {all : Array Oper} (hN : N ≤ 99999) (hC : ∀ w, C w → Sat β h w) (hCs : ∀ w w', C w → Sat β h w' → Step β h w β h w' → C w') (l2 : List Oper) : ∀ (l : List Oper) (m : List ME) (sl : List SI) (a : Act) (e : Env), slimL P N rs vs all (l ++ l2) m = some sl →
    Rel r N rs vs β a e h → MapOk N rs vs β a e m → GM N m → regionQ P (sl.take l.length) e h K → wpQuiet P all C (fun a' => ∃ e' m', Rel r N rs vs β a' e' h ∧ MapOk N rs vs β a' e' m' ∧ GM N m' ∧ slimL P N rs vs all l2 m' = some (sl.drop l.length) ∧ K e') l a
  | [], m, sl, a, e, hs, hr, hm, hgm, hk => ⟨e, m, hr, hm, hgm, by simpa using hs, by simpa [regionQ] using hk⟩
  | o :: l, m, sl, a, e, hs, hr, hm, hgm, hk => by
    have hgm9 : ∀ x ∈ m, ∀ p, x.g = some p → p.1 < 99999 := fun x hx p hp => Nat.lt_of_lt_of_le (hgm x hx p hp) hN
    have go : ∀ {s m' c g sl'}, slim1 P N rs vs m g o = some (s, m', c) → (∀ p, g = some p → p.1 < N) → (g = none ∨ ∃ d b, g = some (d, b) ∧ gOk (e d) b = true) → slimL P N rs vs all (l ++ l2) m' = some sl' → opQC P c s e h (fun e => regionQ P (sl'.take l.length) e h K) →
        o.quiet P a C (wpQuiet P all C (fun a' => ∃ e' m', Rel r N rs vs β a' e' h ∧ MapOk N rs vs β a' e' m' ∧ GM N m' ∧ slimL P N rs vs all l2 m' = some (sl'.drop l.length) ∧ K e') l) := by
      intro s m' c g sl' h1 hgN hgo hsl hop
      refine Oper.quiet_mono ?_ (op1_quiet h1 hN hr hC hCs hop hm hgm9 hgo)
      rintro a' ⟨e', r1, r2, r5⟩
      exact ops_quietT hN hC hCs l2 l m' sl' a' e' hsl r1 r2 (slim1_gm h1 hgm hgN) r5
    unfold wpQuiet
    rw [List.cons_append] at hs
    unfold slimL at hs
    split at hs
    · rename_i hg
      simp only [Option.bind_eq_some_iff, Option.map_eq_some_iff] at hs
      obtain ⟨⟨s, m', c⟩, h1, sl', h2, rfl⟩ := hs
      rw [if_pos (by simp [Region.wanted, hg])]
      exact go h1 (fun p hp => by cases hp) (.inl rfl) h2 hk
    · rename_i j b hg
      simp only [Option.bind_eq_some_iff] at hs
      obtain ⟨d0, hd0, hs⟩ := hs
      split at hs
      · rename_i hdc
        simp only [Option.bind_eq_some_iff] at hs
        obtain ⟨⟨s, m', c⟩, h1, hs⟩ := hs
        split at hs
        · rename_i hsk
          simp only [Option.map_eq_some_iff] at hs
          obtain ⟨sl', h2, rfl⟩ := hs
          rw [wanted_iff hr (by simpa [Option.bind_eq_some_iff] using hd0) hdc.1 hdc.2 hg]
          simp only [List.length_cons, List.take_succ_cons, regionQ] at hk
          by_cases hgo : gOk (e d0) b = true
          · rw [if_pos hgo] at hk ⊢
            exact go h1 (fun p hp => by cases hp; exact hdc.1) (.inr ⟨d0, b, rfl, hgo⟩) h2 hk
          · rw [if_neg hgo] at hk ⊢
            have hsn := skip_sound (o := o) hsk hN hr hm (by simpa using hgo) (slim1_vs h1 (fun x hx => (hm.ok x hx).1))
            exact ops_quietT hN hC hCs l2 l m' sl' _ _ h2 hsn.1 hsn.2 (slim1_gm h1 hgm (fun p hp => by cases hp; exact hdc.1)) hk
        · cases hs
      · cases hs
end quiet
/-- **A region whose order is open, but for what ends it.** -/
theorem wpH_regionT {r : Option Nat} {P : Program} {N : Nat} {rs vs : List Nat} {Q : Exit → Env → H → Prop} {e : Env} {h : H} {id : Nat} {ops : Array Oper} {sl : List SI} (n : Nat) (hmix : P.follows .mixedOrders = true) (hB : Region.lexTailB .any ops n = true) (hnd : noDefer ops = true) (hN : N ≤ 99999)
    (hs : slimL P N rs vs ops ops.toList [] = some sl) (hk : regionQ P (sl.take n) e h fun e => regionH P (sl.drop n) e h fun e h => Q .normal e h) : wpH r P N rs vs (.region id ops true) Q e h := by
  intro β a w hr hw
  simp only [Region.lexTailB, Bool.and_eq_true, decide_eq_true_eq] at hB
  obtain ⟨⟨⟨⟨hsel, hn⟩, hsk⟩, hc⟩, hlex⟩ := hB
  let C : World → Prop := fun w' => Sat β h w' ∧ Step β h w β h w'
  have hC0 : C { w with drawn := w.drawn + 1 } := ⟨⟨hw.g, hw.l, hw.nd, hw.df, hw.d⟩, ⟨rfl, rfl, rfl, Nat.le_refl _, fun _ _ _ => rfl, fun _ _ h => h, fun _ h h' => absurd h h', fun _ h => .inl h, [], rfl, by simp⟩⟩
  have hn' : n < ops.toList.length := by simpa using hn
  have htl : (ops.toList.take n).length = n := by simp; omega
  have hq := ops_quietT (r := r) (P := P) (C := C) (all := ops) hN (fun w h => h.1) (fun w1 w2 h1 h2 h3 => ⟨h2, h1.2.trans h3⟩) (ops.toList.drop n) (ops.toList.take n) [] sl a e (by rw [List.take_append_drop]; exact hs) hr ⟨fun x hx => by cases hx⟩ (fun x hx => by cases hx) (by rw [htl]; exact hk)
  rw [htl] at hq
  have inv0 : HeadInv .any ops n (Array.replicate ops.size false) :=
    ⟨by simp, fun j oj _ hl => (by rw [getD_replicate_false] at hl; cases hl), fun t _ ht => getD_in (by simpa using ht) (getD_replicate_false _ _)⟩
  have H := wpAnyQL_lex (C := C) (md := .any) (g := ops.size - n) hsel hsk hc hn (ops.toList.take n) 0 _ a (fun j hj => by
    have hj' : j < n := by rw [htl] at hj; exact hj
    simp [hj']) (by simpa using htl) inv0 (by rw [htl]; exact hlex) hq
  refine wpIn_mono (Q := PostH r N rs vs β h w (thenH (fun e h => Q .normal e h) Q)) (wpIn_region_any hmix ?_) (fun x a w ⟨β', e', h', q1, q2, q3, q4⟩ => ⟨β', e', h', q1, q2, q3, by cases x <;> exact q4⟩)
  have := wpAnyIn_of_headQ (r := r) (P := P) (C := C) (g := ops.size - n) (Q' := PostH r N rs vs β h w (thenH (fun e h => Q .normal e h) Q)) (noDefer_spec hnd) (fun listed a' w' hCw ⟨hseq, e', m', r1, r2, r3, r4, r5⟩ => by
    refine wpAnyIn_of_seq _ _ _ _ _ hseq ?_
    have hso := ops_sound (P := P) (Q := Q) (all := ops) (K := fun e h => Q .normal e h) hN (ops.toList.drop n) n m' (sl.drop n) β a' w' e' h (fun j => by simp [List.getElem?_drop]) r4 r1 r2 r3 hCw.1 hCw.2 r5
    have hlen : (ops.toList.drop n).length = ops.size - n := by simp
    rw [hlen] at hso
    exact hso) _ _ _ _ hC0 H
  rw [htl, show n + (ops.size - n) = ops.size by omega] at this
  exact this
end Go.Kx
