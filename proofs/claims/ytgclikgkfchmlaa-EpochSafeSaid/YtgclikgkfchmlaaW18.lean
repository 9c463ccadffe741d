/- What functions of the epoch chapter compute: part 18 of a proof: where two logs meet. No condition. -/
import Derived.Test.YtgclikgkfchmlaaW17
import Derived.Test.YtgclikgkfchmlaaW13
set_option linter.unusedSimpArgs false
set_option linter.unusedVariables false
namespace Go.Proofs.Ytgclikgkfchmlaa
open Go Go.Kx
theorem F43 : Fun Try.prog 43 19 v43 c43 o43 := Fun.mk' Try.func43 Try.ntmps43 (by kernel_rfl) (by kernel_rfl) s43 q43
theorem F39 : Fun Try.prog 39 4 v39 c39 o39 := Fun.mk' Try.func39 Try.ntmps39 (by kernel_rfl) (by kernel_rfl) s39 q39
theorem F25 : Fun Try.prog 25 50 v25 c25 o25 := Fun.mk' Try.func25 Try.ntmps25 (by kernel_rfl) (by kernel_rfl) s25 q25

theorem gx_blk_at {G : Nat → Option Obj} {D : List Nat} {b : Nat} {cs : List Value} (L1 L2 : List Kx.Item) :
    GhostX ⟨G, L1 ++ .blk b cs :: L2, D⟩ fun h' => ∃ G', h' = ⟨G', L1 ++ L2, D⟩ ∧ Gle G G' ∧ ∀ j u, cs[j]? = some u → cellG G' (Addr.add ⟨b, 0, none⟩ j) = some u :=
  (GhostX.of (ghost_perm List.perm_middle)).trans fun h' e => by subst e; exact gx_blk
theorem stX_blk {P : Program} {h : H} {K : Env → H → Prop} {l : List SI} {e : Env} {b o k : Nat} {xs cs : List Value} (L1 L2 : List Kx.Item) (hL : h.L = L1 ++ .blk b cs :: L2) (ho : o + xs.length ≤ cs.length)
    (h1 : xs.length = k ∧ xs.all (·.oneCell') = true) (hk : regionH P l e { h with L := L1 ++ .blk b (splice cs o xs) :: L2 } K) : stX P (.pointer (some ⟨b, o, none⟩)) xs k l e h K := by
  refine ⟨_, ?_, h1, hk⟩
  rw [hL]
  exact .blk L1 ho
theorem resV_c {e : Env} {h : H} {s b : Nat} {v : Value} (h1 : e s = .pointer (some ⟨b, 0, none⟩)) (h2 : getB b h.L = some [v]) : resV e h [.c s none] = some [v] := by
  simp [resV, h1, blkO, h2, ldC]
theorem getB_h (b : Nat) (cs : List Value) (L : List Kx.Item) : getB b (.blk b cs :: L) = some cs := by simp [getB]
theorem yield_nil {α : Type} {P : Program} {l : Nat} {E : (Nat → Option Obj) → α → Array Value → Prop} {xs : List α} {I Ix : Nat → (Nat → Option Obj) → List Kx.Item → Prop} {G0 : Nat → Option Obj} (hy : Kx.Yields P l E xs I Ix G0) {i : Nat} {x : α} {args : Array Value} {G : Nat → Option Obj} {L : List Kx.Item}
    (hx : xs[i]? = some x) (hg : Gle G0 G) (hE : E G x args) (hI : I i G L) : YieldH P l args ⟨G, L, []⟩ fun v h' => ∃ G' L', h' = ⟨G', L', []⟩ ∧ Gle G G' ∧ NoRegs L' ∧ ((v = .bool true ∧ I (i + 1) G' L') ∨ (v = .bool false ∧ Ix i G' L')) := by
  have := hy i x args G L hx hg hE hI [] []
  simp only [List.append_nil] at this
  exact this

/-- An index and the epoch there. -/
def IE (l : List Epo) (_ : Nat → Option Obj) (i : Nat) (args : Array Value) : Prop := ∃ x, l[i]? = some x ∧ I64 x.1 ∧ I64 x.2 ∧ args = #[.int .i64 i, .agg #[.int .i64 x.1, .int .i64 x.2]]
def iv1 : Value → Nat
  | .int _ j => (j + 1).toNat
  | _ => 0
theorem iv1_i (k : IntKind) (j : Int) : iv1 (.int k j) = (j + 1).toNat := rfl
theorem rev_at {n t : Nat} (h : t < n) : (List.range n).reverse[t]? = some (n - 1 - t) := by
  rw [List.getElem?_reverse (by simpa using h), List.length_range, List.getElem?_range (by omega)]
theorem rev_lt {n t i : Nat} (h : (List.range n).reverse[t]? = some i) : t < n ∧ i = n - 1 - t := by
  have h1 : t < n := by have := (List.getElem?_eq_some_iff.1 h).1; simpa using this
  rw [rev_at h1] at h
  cases h
  exact ⟨h1, rfl⟩
theorem c43_iter (l : List Epo) (A : Option Addr) (c b : Nat) (G0 : Nat → Option Obj) (hc : l.length ≤ c) (hm : c ≤ maxLen) (hA : SlA G0 EE 2 A l) (h1 : cellG G0 ⟨b, 0, none⟩ = some (.slice A l.length c)) :
    IterH Try.prog 43 #[.pointer (some ⟨b, 0, none⟩)] (List.range l.length).reverse (IE l) G0 := by
  intro yl I Ix G L hG hn hI hIx h0 hy L2 D
  have hargs : (#[.func (.yield yl) #[] #[]] ++ #[.pointer (some ⟨b, 0, none⟩)] : Array Value) = #[.func (.yield yl) #[] #[], .pointer (some ⟨b, 0, none⟩)] := rfl
  rw [hargs]
  refine (F43.calls (R := fun _ h => Gle G h.G ∧ (I l.length h.G h.L ∨ ∃ i, i < l.length ∧ Ix i h.G h.L)) (by simp) hn (go_of ?_) L2 D).mono ?_
  · have e1 := cellG_le hG h1
    unfold c43
    (repeat first | (with_reducible intro _) | refine go_seq ?_ | refine go_skip ?_ | refine go_lab ?_ | refine go_blk ?_ | refine go_b ?_); refine go_r 4 7 (by decide) ?_; (try simp -implicitDefEqProofs only [kR_e, kQ_e, push_cast, Nat.reduceBEq, Nat.reduceAdd, Nat.reduceSub, Nat.reduceMul, Nat.reduceLT, Nat.reduceLeDiff, Nat.reduceEqDiff, reduceIte, Bool.not_true, Bool.not_false, true_and, and_true, Option.map_some, Option.bind_some, Int.toNat_natCast, c43r0])
    refine ⟨_, ⟨_, rfl, .g e1⟩, ?_⟩
    have hw0 : IntKind.i64.wrap ((l.length : Int) - 1) = (l.length : Int) - 1 := by unfold maxLen at hm; rw [w64_id] <;> omega
    (try simp -implicitDefEqProofs only [kR_e, kQ_e, push_cast, Nat.reduceBEq, Nat.reduceAdd, Nat.reduceSub, Nat.reduceMul, Nat.reduceLT, Nat.reduceLeDiff, Nat.reduceEqDiff, reduceIte, Bool.not_true, Bool.not_false, true_and, and_true, Option.map_some, Option.bind_some, Int.toNat_natCast, hw0])
    (repeat first | (with_reducible intro _) | refine go_seq ?_ | refine go_skip ?_ | refine go_lab ?_ | refine go_blk ?_ | refine go_b ?_)
    refine go_loop (fun e h => ∃ (t : Nat) (G' : Nat → Option Obj) (L' : List Kx.Item), (t ≤ l.length ∧ Gle G G' ∧ NoRegs L' ∧ I t G' L') ∧ e 3 = .int .i64 ((l.length : Int) - 1 - t) ∧ e 0 = .func (.yield yl) #[] #[] ∧ e 1 = .pointer (some ⟨b, 0, none⟩) ∧ h = ⟨G', L', []⟩) (fun e h => iv1 (e 3)) ?_ ?_
    · refine ⟨0, G, L, ⟨Nat.zero_le _, .refl G, hn, h0⟩, ?_, rfl, rfl, rfl⟩
      (try simp -implicitDefEqProofs only [kR_e, kQ_e, push_cast, Nat.reduceBEq, Nat.reduceAdd, Nat.reduceSub, Nat.reduceMul, Nat.reduceLT, Nat.reduceLeDiff, Nat.reduceEqDiff, reduceIte, Bool.not_true, Bool.not_false, true_and, and_true, Option.map_some, Option.bind_some, Int.toNat_natCast])
      simp
    · rintro e h ⟨t, G', L', ⟨ht, hgg, hn', hI'⟩, e3, e0, e1', rfl⟩
      refine go_keep [0, 1, 3] ?_
      (try simp -implicitDefEqProofs only [kR_e, kQ_e, push_cast, Nat.reduceBEq, Nat.reduceAdd, Nat.reduceSub, Nat.reduceMul, Nat.reduceLT, Nat.reduceLeDiff, Nat.reduceEqDiff, reduceIte, Bool.not_true, Bool.not_false, true_and, and_true, Option.map_some, Option.bind_some, Int.toNat_natCast, e0, e1', e3])
      (repeat first | (with_reducible intro _) | refine go_seq ?_ | refine go_skip ?_ | refine go_lab ?_ | refine go_blk ?_ | refine go_b ?_); refine go_r 7 8 (by decide) ?_; (try simp -implicitDefEqProofs only [kR_e, kQ_e, push_cast, Nat.reduceBEq, Nat.reduceAdd, Nat.reduceSub, Nat.reduceMul, Nat.reduceLT, Nat.reduceLeDiff, Nat.reduceEqDiff, reduceIte, Bool.not_true, Bool.not_false, true_and, and_true, Option.map_some, Option.bind_some, Int.toNat_natCast, c43r1])
      (repeat first | (with_reducible intro _) | refine go_seq ?_ | refine go_skip ?_ | refine go_lab ?_ | refine go_blk ?_ | refine go_b ?_); refine go_c ?_; (try simp -implicitDefEqProofs only [kR_e, kQ_e, push_cast, Nat.reduceBEq, Nat.reduceAdd, Nat.reduceSub, Nat.reduceMul, Nat.reduceLT, Nat.reduceLeDiff, Nat.reduceEqDiff, reduceIte, Bool.not_true, Bool.not_false, true_and, and_true, Option.map_some, Option.bind_some, Int.toNat_natCast])
      refine gb (fun h2 => ?_) (fun h2 => ?_)
      · have htl : t < l.length := by simp at h2; omega
        obtain ⟨x, hx⟩ : ∃ x, l[l.length - 1 - t]? = some x := ⟨l[l.length - 1 - t], List.getElem?_eq_getElem (by omega)⟩
        have e1g := cellG_le hgg e1
        have hAg := (hA.le hG fun _ _ h => h).le hgg fun _ _ h => h
        have hcast : (l.length : Int) - 1 - t = ((l.length - 1 - t : Nat) : Int) := by omega
        (repeat first | (with_reducible intro _) | refine go_seq ?_ | refine go_skip ?_ | refine go_lab ?_ | refine go_blk ?_ | refine go_b ?_); refine go_r 11 18 (by decide) ?_; (try simp -implicitDefEqProofs only [kR_e, kQ_e, push_cast, Nat.reduceBEq, Nat.reduceAdd, Nat.reduceSub, Nat.reduceMul, Nat.reduceLT, Nat.reduceLeDiff, Nat.reduceEqDiff, reduceIte, Bool.not_true, Bool.not_false, true_and, and_true, Option.map_some, Option.bind_some, Int.toNat_natCast, c43r2])
        refine ⟨_, ⟨_, rfl, .g e1g⟩, ?_⟩
        (try simp -implicitDefEqProofs only [kR_e, kQ_e, push_cast, Nat.reduceBEq, Nat.reduceAdd, Nat.reduceSub, Nat.reduceMul, Nat.reduceLT, Nat.reduceLeDiff, Nat.reduceEqDiff, reduceIte, Bool.not_true, Bool.not_false, true_and, and_true, Option.map_some, Option.bind_some, Int.toNat_natCast])
        refine hAg.x_ld hx hcast rfl ?_
        rintro a1 ha1 cs ⟨rfl, i1, i2⟩
        (try simp -implicitDefEqProofs only [kR_e, kQ_e, push_cast, Nat.reduceBEq, Nat.reduceAdd, Nat.reduceSub, Nat.reduceMul, Nat.reduceLT, Nat.reduceLeDiff, Nat.reduceEqDiff, reduceIte, Bool.not_true, Bool.not_false, true_and, and_true, Option.map_some, Option.bind_some, Int.toNat_natCast])
        refine .inr ⟨yl, rfl, ?_⟩
        refine (yield_nil hy (rev_at htl) hgg ⟨x, hx, i1, i2, by rw [hcast]⟩ hI').mono ?_
        rintro v h' ⟨G2, L3, rfl, hg2, hn2, hr⟩
        rcases hr with ⟨rfl, hr⟩ | ⟨rfl, hr⟩
        · (try simp -implicitDefEqProofs only [kR_e, kQ_e, push_cast, Nat.reduceBEq, Nat.reduceAdd, Nat.reduceSub, Nat.reduceMul, Nat.reduceLT, Nat.reduceLeDiff, Nat.reduceEqDiff, reduceIte, Bool.not_true, Bool.not_false, true_and, and_true, Option.map_some, Option.bind_some, Int.toNat_natCast])
          (repeat first | (with_reducible intro _) | refine go_seq ?_ | refine go_skip ?_ | refine go_lab ?_ | refine go_blk ?_ | refine go_b ?_); refine go_c ?_; (try simp -implicitDefEqProofs only [kR_e, kQ_e, push_cast, Nat.reduceBEq, Nat.reduceAdd, Nat.reduceSub, Nat.reduceMul, Nat.reduceLT, Nat.reduceLeDiff, Nat.reduceEqDiff, reduceIte, Bool.not_true, Bool.not_false, true_and, and_true, Option.map_some, Option.bind_some, Int.toNat_natCast])
          have hw : IntKind.i64.wrap ((l.length : Int) - 1 - t - 1) = (l.length : Int) - 1 - ((t + 1 : Nat) : Int) := by unfold maxLen at hm; rw [w64_id] <;> omega
          (repeat first | (with_reducible intro _) | refine go_seq ?_ | refine go_skip ?_ | refine go_lab ?_ | refine go_blk ?_ | refine go_b ?_); refine go_r 9 11 (by decide) ?_; (try simp -implicitDefEqProofs only [kR_e, kQ_e, push_cast, Nat.reduceBEq, Nat.reduceAdd, Nat.reduceSub, Nat.reduceMul, Nat.reduceLT, Nat.reduceLeDiff, Nat.reduceEqDiff, reduceIte, Bool.not_true, Bool.not_false, true_and, and_true, Option.map_some, Option.bind_some, Int.toNat_natCast, c43r3, hw])
          (repeat first | (with_reducible intro _) | refine go_seq ?_ | refine go_skip ?_ | refine go_lab ?_ | refine go_blk ?_ | refine go_b ?_)
          refine go_l ⟨⟨t + 1, G2, L3, ⟨by omega, hgg.trans hg2, hn2, hr⟩, by (try simp -implicitDefEqProofs only [kR_e, kQ_e, push_cast, Nat.reduceBEq, Nat.reduceAdd, Nat.reduceSub, Nat.reduceMul, Nat.reduceLT, Nat.reduceLeDiff, Nat.reduceEqDiff, reduceIte, Bool.not_true, Bool.not_false, true_and, and_true, Option.map_some, Option.bind_some, Int.toNat_natCast]), by (try simp -implicitDefEqProofs only [kR_e, kQ_e, push_cast, Nat.reduceBEq, Nat.reduceAdd, Nat.reduceSub, Nat.reduceMul, Nat.reduceLT, Nat.reduceLeDiff, Nat.reduceEqDiff, reduceIte, Bool.not_true, Bool.not_false, true_and, and_true, Option.map_some, Option.bind_some, Int.toNat_natCast]), by (try simp -implicitDefEqProofs only [kR_e, kQ_e, push_cast, Nat.reduceBEq, Nat.reduceAdd, Nat.reduceSub, Nat.reduceMul, Nat.reduceLT, Nat.reduceLeDiff, Nat.reduceEqDiff, reduceIte, Bool.not_true, Bool.not_false, true_and, and_true, Option.map_some, Option.bind_some, Int.toNat_natCast]), rfl⟩, ?_⟩
          (try simp -implicitDefEqProofs only [kR_e, kQ_e, push_cast, Nat.reduceBEq, Nat.reduceAdd, Nat.reduceSub, Nat.reduceMul, Nat.reduceLT, Nat.reduceLeDiff, Nat.reduceEqDiff, reduceIte, Bool.not_true, Bool.not_false, true_and, and_true, Option.map_some, Option.bind_some, Int.toNat_natCast, iv1_i])
          omega
        · (try simp -implicitDefEqProofs only [kR_e, kQ_e, push_cast, Nat.reduceBEq, Nat.reduceAdd, Nat.reduceSub, Nat.reduceMul, Nat.reduceLT, Nat.reduceLeDiff, Nat.reduceEqDiff, reduceIte, Bool.not_true, Bool.not_false, true_and, and_true, Option.map_some, Option.bind_some, Int.toNat_natCast])
          (repeat first | (with_reducible intro _) | refine go_seq ?_ | refine go_skip ?_ | refine go_lab ?_ | refine go_blk ?_ | refine go_b ?_); refine go_c ?_; (try simp -implicitDefEqProofs only [kR_e, kQ_e, push_cast, Nat.reduceBEq, Nat.reduceAdd, Nat.reduceSub, Nat.reduceMul, Nat.reduceLT, Nat.reduceLeDiff, Nat.reduceEqDiff, reduceIte, Bool.not_true, Bool.not_false, true_and, and_true, Option.map_some, Option.bind_some, Int.toNat_natCast])
          (repeat first | (with_reducible intro _) | refine go_seq ?_ | refine go_skip ?_ | refine go_lab ?_ | refine go_blk ?_ | refine go_b ?_)
          refine go_ret (retQ_o L3 rfl (List.Sublist.refl _) hn2 ?_)
          exact ⟨hgg.trans hg2, .inr ⟨t, htl, hr⟩⟩
      · have htl : t = l.length := by simp at h2; omega
        subst htl
        refine go_exit ?_
        (try simp -implicitDefEqProofs only [kR_e, kQ_e, push_cast, Nat.reduceBEq, Nat.reduceAdd, Nat.reduceSub, Nat.reduceMul, Nat.reduceLT, Nat.reduceLeDiff, Nat.reduceEqDiff, reduceIte, Bool.not_true, Bool.not_false, true_and, and_true, Option.map_some, Option.bind_some, Int.toNat_natCast])
        refine go_nil ?_
        exact ⟨[], rfl, ⟨G', L', []⟩, ghost_sub (List.Sublist.refl _), hn', hgg, .inl hI'⟩
  · rintro v h' ⟨G', L', rfl, hn', hgg, hr⟩
    exact ⟨G', L', rfl, hgg, hn', by simpa using hr⟩

theorem c39_ok (l : List Epo) (A : Option Addr) (c : Nat) (G : Nat → Option Obj) (hc : l.length ≤ c) (hm : c ≤ maxLen) (hA : SlA G EE 2 A l) :
    FnD Try.prog 39 #[.slice A l.length c] G (fun G' r => ∃ b, r = .func (.func 43) #[] #[.pointer (some ⟨b, 0, none⟩)] ∧ IterH Try.prog 43 #[.pointer (some ⟨b, 0, none⟩)] (List.range l.length).reverse (IE l) G') := by
  refine F39.fnD (by simp) (go_of ?_)
  unfold c39
  (repeat first | (with_reducible intro _) | refine go_seq ?_ | refine go_skip ?_ | refine go_lab ?_ | refine go_blk ?_ | refine go_b ?_); refine go_r 0 0 (by decide) ?_; (try simp -implicitDefEqProofs only [kR_e, kQ_e, push_cast, Nat.reduceBEq, Nat.reduceAdd, Nat.reduceSub, Nat.reduceMul, Nat.reduceLT, Nat.reduceLeDiff, Nat.reduceEqDiff, reduceIte, Bool.not_true, Bool.not_false, true_and, and_true, Option.map_some, Option.bind_some, Int.toNat_natCast, c39r0])
  intro b1 hb1
  (repeat first | (with_reducible intro _) | refine go_seq ?_ | refine go_skip ?_ | refine go_lab ?_ | refine go_blk ?_ | refine go_b ?_)
  refine go_gx gx_blk ?_
  rintro h' ⟨G1, rfl, hg1, hc1⟩
  have e1 := hc1 0 _ rfl
  rw [add_off] at e1
  (repeat first | (with_reducible intro _) | refine go_seq ?_ | refine go_skip ?_ | refine go_lab ?_ | refine go_blk ?_ | refine go_b ?_); refine go_r 3 4 (by decide) ?_; (try simp -implicitDefEqProofs only [kR_e, kQ_e, push_cast, Nat.reduceBEq, Nat.reduceAdd, Nat.reduceSub, Nat.reduceMul, Nat.reduceLT, Nat.reduceLeDiff, Nat.reduceEqDiff, reduceIte, Bool.not_true, Bool.not_false, true_and, and_true, Option.map_some, Option.bind_some, Int.toNat_natCast, c39r1])
  (repeat first | (with_reducible intro _) | refine go_seq ?_ | refine go_skip ?_ | refine go_lab ?_ | refine go_blk ?_ | refine go_b ?_)
  refine go_ret (retQ_v rfl ?_); simp only [push_cast, Nat.reduceBEq]
  exact ⟨b1, rfl, c43_iter l A c b1 G1 hc hm (hA.le hg1 fun _ _ h => h) e1⟩

def endp (l : List Epo) (i : Nat) (en : Int) : Int := (l[i + 1]?.map (·.2)).getD en
/-- Where two logs meet. -/
def MeetR (a b : List Epo) (ae be m : Int) : Prop :=
  ((chkN a ≠ 0 ∨ chkN b ≠ 0) ∧ m = 0) ∨ (chkN a = 0 ∧ chkN b = 0 ∧
    (((∀ (i : Nat) (x : Epo) (k : Nat) (y : Epo), a[i]? = some x → b[k]? = some y → x.1 ≠ y.1) ∧ m = 0) ∨
     ∃ (i : Nat) (x : Epo) (k : Nat) (y : Epo), a[i]? = some x ∧ b[k]? = some y ∧ x.1 = y.1 ∧ (∀ (i' : Nat) (x' : Epo) (k' : Nat) (y' : Epo), i < i' → a[i']? = some x' → b[k']? = some y' → x'.1 ≠ y'.1) ∧ m = min (endp a i ae) (endp b k be)))
theorem endR_common {b : List Epo} {n be w o : Int} (hb : chkN b = 0) (hn : 0 ≤ n) (hr : EndR b n be w o) :
    (w = n ∧ ∃ (k : Nat) (y : Epo), b[k]? = some y ∧ n = y.1 ∧ o = endp b k be) ∨ (w ≠ n ∧ ∀ (k : Nat) (y : Epo), b[k]? = some y → n ≠ y.1) := by
  by_cases h : ∃ (k : Nat) (y : Epo), b[k]? = some y ∧ n = y.1
  · obtain ⟨k, y, hy, rfl⟩ := h
    obtain ⟨h1, h2⟩ := endR_at hb hy hr
    exact .inl ⟨h1, k, y, hy, rfl, h2⟩
  · refine .inr ⟨fun hw => ?_, fun k y hy he => h ⟨k, y, hy, he⟩⟩
    rcases hr with ⟨h1, _⟩ | ⟨_, j, _, ⟨_, h2, _⟩ | ⟨x, h0, hx, h2, _⟩⟩
    · exact h1 hb
    · omega
    · exact h ⟨_, x, hx, by omega⟩

theorem Meet_ok (a b : List Epo) (ae be : Int) (va vb : Value) (G : Nat → Option Obj) (ha : SEpo G va a) (hb : SEpo G vb b) (hla : a.length ≤ 1000000) (hlb : b.length ≤ 1000000) :
    FnE Try.prog 25 #[va, .int .i64 ae, vb, .int .i64 be] G (fun r => ∃ m, r = .int .i64 m ∧ MeetR a b ae be m) := by
  refine F25.fnE (by simp) (go_of ?_)
  obtain ⟨A, c, rfl, hc, hm, hA⟩ := ha
  obtain ⟨B, d, rfl, hd, hmd, hB⟩ := hb
  unfold c25
  (repeat first | (with_reducible intro _) | refine go_seq ?_ | refine go_skip ?_ | refine go_lab ?_ | refine go_blk ?_ | refine go_b ?_); refine go_r 0 0 (by decide) ?_; (try simp -implicitDefEqProofs only [kR_e, kQ_e, push_cast, Nat.reduceBEq, Nat.reduceAdd, Nat.reduceSub, Nat.reduceMul, Nat.reduceLT, Nat.reduceLeDiff, Nat.reduceEqDiff, reduceIte, Bool.not_true, Bool.not_false, true_and, and_true, Option.map_some, Option.bind_some, Int.toNat_natCast, c25r0])
  intro b4 hb4 b5 hb5 b6 hb6 b7 hb7 b8 hb8
  (repeat first | (with_reducible intro _) | refine go_seq ?_ | refine go_skip ?_ | refine go_lab ?_ | refine go_blk ?_ | refine go_b ?_)
  refine go_gx (gx_blk_at [_] _) ?_
  rintro h' ⟨G1, rfl, hg1, f7⟩
  refine go_gx (gx_blk_at [_] _) ?_
  rintro h' ⟨G2, rfl, hg2, f6⟩
  refine go_gx (gx_blk_at [_] _) ?_
  rintro h' ⟨G3, rfl, hg3, f5⟩
  refine go_gx (gx_blk_at [_] _) ?_
  rintro h' ⟨G4, rfl, hg4, f4⟩
  have e4 := f4 0 _ rfl
  have e5 := cellG_le hg4 (f5 0 _ rfl)
  have e6 := cellG_le hg4 (cellG_le hg3 (f6 0 _ rfl))
  have e7 := cellG_le hg4 (cellG_le hg3 (cellG_le hg2 (f7 0 _ rfl)))
  rw [add_off] at e4 e5 e6 e7
  have hgg : Gle G G4 := ((hg1.trans hg2).trans hg3).trans hg4
  have hA4 := hA.le hgg fun _ _ h => h
  have hB4 := hB.le hgg fun _ _ h => h
  have ha4 : SEpo G4 (.slice A a.length c) a := ⟨A, c, rfl, hc, hm, hA4⟩
  have hb4' : SEpo G4 (.slice B b.length d) b := ⟨B, d, rfl, hd, hmd, hB4⟩
  have hbad : ∀ (fr : List Td) (e : Env), (chkN a ≠ 0 ∨ chkN b ≠ 0) → e 8 = .pointer (some ⟨b8, 0, none⟩) → go none Try.prog 50 v25.1 v25.2 (retQ o25 fun v h => ∃ m, v = .int .i64 m ∧ MeetR a b ae be m) (Td.s ((SC.reg false c25r2).seq .ret) :: fr) e ⟨G4, [.blk b8 [.int .i64 0]], []⟩ := fun fr e hbd e8 => by
    (repeat first | (with_reducible intro _) | refine go_seq ?_ | refine go_skip ?_ | refine go_lab ?_ | refine go_blk ?_ | refine go_b ?_); refine go_r 0 0 (by decide) ?_; (try simp -implicitDefEqProofs only [kR_e, kQ_e, push_cast, Nat.reduceBEq, Nat.reduceAdd, Nat.reduceSub, Nat.reduceMul, Nat.reduceLT, Nat.reduceLeDiff, Nat.reduceEqDiff, reduceIte, Bool.not_true, Bool.not_false, true_and, and_true, Option.map_some, Option.bind_some, Int.toNat_natCast, c25r2, e8])
    refine stX_blk [] [] rfl (by simp) ⟨rfl, rfl⟩ ?_
    (try simp -implicitDefEqProofs only [kR_e, kQ_e, push_cast, Nat.reduceBEq, Nat.reduceAdd, Nat.reduceSub, Nat.reduceMul, Nat.reduceLT, Nat.reduceLeDiff, Nat.reduceEqDiff, reduceIte, Bool.not_true, Bool.not_false, true_and, and_true, Option.map_some, Option.bind_some, Int.toNat_natCast])
    (repeat first | (with_reducible intro _) | refine go_seq ?_ | refine go_skip ?_ | refine go_lab ?_ | refine go_blk ?_ | refine go_b ?_)
    refine go_ret (retQ_v (resV_c (b := b8) (v := .int .i64 0) (by (try simp -implicitDefEqProofs only [kR_e, kQ_e, push_cast, Nat.reduceBEq, Nat.reduceAdd, Nat.reduceSub, Nat.reduceMul, Nat.reduceLT, Nat.reduceLeDiff, Nat.reduceEqDiff, reduceIte, Bool.not_true, Bool.not_false, true_and, and_true, Option.map_some, Option.bind_some, Int.toNat_natCast, e8])) (getB_h _ _ _)) ?_)
    exact ⟨0, rfl, .inl ⟨hbd, rfl⟩⟩
  (repeat first | (with_reducible intro _) | refine go_seq ?_ | refine go_skip ?_ | refine go_lab ?_ | refine go_blk ?_ | refine go_b ?_); refine go_r 15 22 (by decide) ?_; (try simp -implicitDefEqProofs only [kR_e, kQ_e, push_cast, Nat.reduceBEq, Nat.reduceAdd, Nat.reduceSub, Nat.reduceMul, Nat.reduceLT, Nat.reduceLeDiff, Nat.reduceEqDiff, reduceIte, Bool.not_true, Bool.not_false, true_and, and_true, Option.map_some, Option.bind_some, Int.toNat_natCast, c25r1])
  refine ⟨_, ⟨_, rfl, .g e4⟩, ?_⟩
  (try simp -implicitDefEqProofs only [kR_e, kQ_e, push_cast, Nat.reduceBEq, Nat.reduceAdd, Nat.reduceSub, Nat.reduceMul, Nat.reduceLT, Nat.reduceLeDiff, Nat.reduceEqDiff, reduceIte, Bool.not_true, Bool.not_false, true_and, and_true, Option.map_some, Option.bind_some, Int.toNat_natCast])
  refine (Check_ok _ _ _ ha4 _ _).mono ?_
  rintro v h' ⟨rfl, rfl⟩
  (try simp -implicitDefEqProofs only [kR_e, kQ_e, push_cast, Nat.reduceBEq, Nat.reduceAdd, Nat.reduceSub, Nat.reduceMul, Nat.reduceLT, Nat.reduceLeDiff, Nat.reduceEqDiff, reduceIte, Bool.not_true, Bool.not_false, true_and, and_true, Option.map_some, Option.bind_some, Int.toNat_natCast])
  refine gd (fun h1 => ?_) (fun h1 => ?_)
  · (try simp -implicitDefEqProofs only [kR_e, kQ_e, push_cast, Nat.reduceBEq, Nat.reduceAdd, Nat.reduceSub, Nat.reduceMul, Nat.reduceLT, Nat.reduceLeDiff, Nat.reduceEqDiff, reduceIte, Bool.not_true, Bool.not_false, true_and, and_true, Option.map_some, Option.bind_some, Int.toNat_natCast])
    (repeat first | (with_reducible intro _) | refine go_seq ?_ | refine go_skip ?_ | refine go_lab ?_ | refine go_blk ?_ | refine go_b ?_); refine go_c ?_; (try simp -implicitDefEqProofs only [kR_e, kQ_e, push_cast, Nat.reduceBEq, Nat.reduceAdd, Nat.reduceSub, Nat.reduceMul, Nat.reduceLT, Nat.reduceLeDiff, Nat.reduceEqDiff, reduceIte, Bool.not_true, Bool.not_false, true_and, and_true, Option.map_some, Option.bind_some, Int.toNat_natCast])
    exact hbad _ _ (.inl (by simpa using h1)) (by (try simp -implicitDefEqProofs only [kR_e, kQ_e, push_cast, Nat.reduceBEq, Nat.reduceAdd, Nat.reduceSub, Nat.reduceMul, Nat.reduceLT, Nat.reduceLeDiff, Nat.reduceEqDiff, reduceIte, Bool.not_true, Bool.not_false, true_and, and_true, Option.map_some, Option.bind_some, Int.toNat_natCast]))
  (try simp -implicitDefEqProofs only [kR_e, kQ_e, push_cast, Nat.reduceBEq, Nat.reduceAdd, Nat.reduceSub, Nat.reduceMul, Nat.reduceLT, Nat.reduceLeDiff, Nat.reduceEqDiff, reduceIte, Bool.not_true, Bool.not_false, true_and, and_true, Option.map_some, Option.bind_some, Int.toNat_natCast])
  refine ⟨_, ⟨_, rfl, .g e6⟩, ?_⟩
  (try simp -implicitDefEqProofs only [kR_e, kQ_e, push_cast, Nat.reduceBEq, Nat.reduceAdd, Nat.reduceSub, Nat.reduceMul, Nat.reduceLT, Nat.reduceLeDiff, Nat.reduceEqDiff, reduceIte, Bool.not_true, Bool.not_false, true_and, and_true, Option.map_some, Option.bind_some, Int.toNat_natCast])
  refine (Check_ok _ _ _ hb4' _ _).mono ?_
  rintro v h' ⟨rfl, rfl⟩
  (try simp -implicitDefEqProofs only [kR_e, kQ_e, push_cast, Nat.reduceBEq, Nat.reduceAdd, Nat.reduceSub, Nat.reduceMul, Nat.reduceLT, Nat.reduceLeDiff, Nat.reduceEqDiff, reduceIte, Bool.not_true, Bool.not_false, true_and, and_true, Option.map_some, Option.bind_some, Int.toNat_natCast])
  (repeat first | (with_reducible intro _) | refine go_seq ?_ | refine go_skip ?_ | refine go_lab ?_ | refine go_blk ?_ | refine go_b ?_); refine go_c ?_; (try simp -implicitDefEqProofs only [kR_e, kQ_e, push_cast, Nat.reduceBEq, Nat.reduceAdd, Nat.reduceSub, Nat.reduceMul, Nat.reduceLT, Nat.reduceLeDiff, Nat.reduceEqDiff, reduceIte, Bool.not_true, Bool.not_false, true_and, and_true, Option.map_some, Option.bind_some, Int.toNat_natCast])
  refine gb (fun h2 => ?_) (fun h2 => ?_)
  · exact hbad _ _ (.inr (by simpa using h2)) (by (try simp -implicitDefEqProofs only [kR_e, kQ_e, push_cast, Nat.reduceBEq, Nat.reduceAdd, Nat.reduceSub, Nat.reduceMul, Nat.reduceLT, Nat.reduceLeDiff, Nat.reduceEqDiff, reduceIte, Bool.not_true, Bool.not_false, true_and, and_true, Option.map_some, Option.bind_some, Int.toNat_natCast]))
  have hca : chkN a = 0 := by simpa using h1
  have hcb : chkN b = 0 := by simpa using h2
  (repeat first | (with_reducible intro _) | refine go_seq ?_ | refine go_skip ?_ | refine go_lab ?_ | refine go_blk ?_ | refine go_b ?_); refine go_r 23 24 (by decide) ?_; (try simp -implicitDefEqProofs only [kR_e, kQ_e, push_cast, Nat.reduceBEq, Nat.reduceAdd, Nat.reduceSub, Nat.reduceMul, Nat.reduceLT, Nat.reduceLeDiff, Nat.reduceEqDiff, reduceIte, Bool.not_true, Bool.not_false, true_and, and_true, Option.map_some, Option.bind_some, Int.toNat_natCast, c25r3])
  refine ⟨_, ⟨_, rfl, .g e4⟩, ?_⟩
  (try simp -implicitDefEqProofs only [kR_e, kQ_e, push_cast, Nat.reduceBEq, Nat.reduceAdd, Nat.reduceSub, Nat.reduceMul, Nat.reduceLT, Nat.reduceLeDiff, Nat.reduceEqDiff, reduceIte, Bool.not_true, Bool.not_false, true_and, and_true, Option.map_some, Option.bind_some, Int.toNat_natCast])
  refine (c39_ok a A c G4 hc hm hA4 _ []).mono ?_
  rintro r h' ⟨G5, rfl, hg5, b9, rfl, hit⟩
  (try simp -implicitDefEqProofs only [kR_e, kQ_e, push_cast, Nat.reduceBEq, Nat.reduceAdd, Nat.reduceSub, Nat.reduceMul, Nat.reduceLT, Nat.reduceLeDiff, Nat.reduceEqDiff, reduceIte, Bool.not_true, Bool.not_false, true_and, and_true, Option.map_some, Option.bind_some, Int.toNat_natCast])
  (repeat first | (with_reducible intro _) | refine go_seq ?_ | refine go_skip ?_ | refine go_lab ?_ | refine go_blk ?_ | refine go_b ?_)
  have fin : ∀ (m : Int) (G6 : Nat → Option Obj) (D : List Nat) (e : Env), MeetR a b ae be m → e 8 = .pointer (some ⟨b8, 0, none⟩) → retQ o25 (fun v (h : H) => ∃ m, v = .int .i64 m ∧ MeetR a b ae be m) .ret e ⟨G6, [.blk b8 [.int .i64 m]], D⟩ := fun m G6 D e hm e8 =>
    retQ_v (resV_c (b := b8) (v := .int .i64 m) e8 (getB_h _ _ _)) ⟨m, rfl, hm⟩
  refine go_rf (α := Nat) (fun t G' L' => L' = [.blk b8 [.int .i64 0]] ∧ ∀ (t' : Nat) (x : Epo) (k : Nat) (y : Epo), t' < t → a[a.length - 1 - t']? = some x → b[k]? = some y → x.1 ≠ y.1)
    (fun ex t G' L' => ex = .ret ∧ ∃ m, L' = [.blk b8 [.int .i64 m]] ∧ MeetR a b ae be m) (by (try simp -implicitDefEqProofs only [kR_e, kQ_e, push_cast, Nat.reduceBEq, Nat.reduceAdd, Nat.reduceSub, Nat.reduceMul, Nat.reduceLT, Nat.reduceLeDiff, Nat.reduceEqDiff, reduceIte, Bool.not_true, Bool.not_false, true_and, and_true, Option.map_some, Option.bind_some, Int.toNat_natCast])) F43.enters (noRegs_blk noRegs_nil) hit (fun G x args h => by obtain ⟨y, _, _, _, rfl⟩ := h; rfl) ⟨rfl, fun t' x k y h => absurd h (by omega)⟩ ?_ ?_ ?_
  · rintro yl t i args G' L' hti hgl ⟨x, hx, i1, i2, rfl⟩ ⟨rfl, hno⟩ _
    obtain ⟨htl, rfl⟩ := rev_lt hti
    have hg6 : Gle G4 G' := hg5.trans hgl
    have e4' := cellG_le hg6 e4
    have e5' := cellG_le hg6 e5
    have e6' := cellG_le hg6 e6
    have e7' := cellG_le hg6 e7
    have ha5 := ha4.le hg6 fun _ _ h => h
    have hb5 := hb4'.le hg6 fun _ _ h => h
    have hokx := chk_ok hca hx
    have hx0 : 0 ≤ x.1 := by simp [okE] at hokx; omega
    have hx64 : I64 x.1 := i1
    (try simp -implicitDefEqProofs only [kR_e, kQ_e, push_cast, Nat.reduceBEq, Nat.reduceAdd, Nat.reduceSub, Nat.reduceMul, Nat.reduceLT, Nat.reduceLeDiff, Nat.reduceEqDiff, reduceIte, Bool.not_true, Bool.not_false, true_and, and_true, Option.map_some, Option.bind_some, Int.toNat_natCast])
    (repeat first | (with_reducible intro _) | refine go_seq ?_ | refine go_skip ?_ | refine go_lab ?_ | refine go_blk ?_ | refine go_b ?_); refine go_r 0 0 (by decide) ?_; (try simp -implicitDefEqProofs only [kR_e, kQ_e, push_cast, Nat.reduceBEq, Nat.reduceAdd, Nat.reduceSub, Nat.reduceMul, Nat.reduceLT, Nat.reduceLeDiff, Nat.reduceEqDiff, reduceIte, Bool.not_true, Bool.not_false, true_and, and_true, Option.map_some, Option.bind_some, Int.toNat_natCast, c25r4])
    intro bb
    refine go_nil (rnd_a ?_)
    (repeat first | (with_reducible intro _) | refine go_seq ?_ | refine go_skip ?_ | refine go_lab ?_ | refine go_blk ?_ | refine go_b ?_); refine go_r 27 35 (by decide) ?_; (try simp -implicitDefEqProofs only [kR_e, kQ_e, push_cast, Nat.reduceBEq, Nat.reduceAdd, Nat.reduceSub, Nat.reduceMul, Nat.reduceLT, Nat.reduceLeDiff, Nat.reduceEqDiff, reduceIte, Bool.not_true, Bool.not_false, true_and, and_true, Option.map_some, Option.bind_some, Int.toNat_natCast, c25r5])
    refine ⟨_, ⟨_, rfl, .g e6'⟩, ?_⟩
    (try simp -implicitDefEqProofs only [kR_e, kQ_e, push_cast, Nat.reduceBEq, Nat.reduceAdd, Nat.reduceSub, Nat.reduceMul, Nat.reduceLT, Nat.reduceLeDiff, Nat.reduceEqDiff, reduceIte, Bool.not_true, Bool.not_false, true_and, and_true, Option.map_some, Option.bind_some, Int.toNat_natCast])
    refine ⟨_, ⟨_, rfl, .g e7'⟩, ?_⟩
    (try simp -implicitDefEqProofs only [kR_e, kQ_e, push_cast, Nat.reduceBEq, Nat.reduceAdd, Nat.reduceSub, Nat.reduceMul, Nat.reduceLT, Nat.reduceLeDiff, Nat.reduceEqDiff, reduceIte, Bool.not_true, Bool.not_false, true_and, and_true, Option.map_some, Option.bind_some, Int.toNat_natCast])
    refine (EndOf_ok _ x.1 be _ G' hb5 hlb _ _).mono ?_
    rintro v h' ⟨⟨w, o, rfl, hw⟩, rfl⟩
    have hcom := endR_common hcb hx0 hw
    (try simp -implicitDefEqProofs only [kR_e, kQ_e, push_cast, Nat.reduceBEq, Nat.reduceAdd, Nat.reduceSub, Nat.reduceMul, Nat.reduceLT, Nat.reduceLeDiff, Nat.reduceEqDiff, reduceIte, Bool.not_true, Bool.not_false, true_and, and_true, Option.map_some, Option.bind_some, Int.toNat_natCast])
    (repeat first | (with_reducible intro _) | refine go_seq ?_ | refine go_skip ?_ | refine go_lab ?_ | refine go_blk ?_ | refine go_b ?_); refine go_r 35 38 (by decide) ?_; (try simp -implicitDefEqProofs only [kR_e, kQ_e, push_cast, Nat.reduceBEq, Nat.reduceAdd, Nat.reduceSub, Nat.reduceMul, Nat.reduceLT, Nat.reduceLeDiff, Nat.reduceEqDiff, reduceIte, Bool.not_true, Bool.not_false, true_and, and_true, Option.map_some, Option.bind_some, Int.toNat_natCast, c25r6])
    (repeat first | (with_reducible intro _) | refine go_seq ?_ | refine go_skip ?_ | refine go_lab ?_ | refine go_blk ?_ | refine go_b ?_); refine go_c ?_; (try simp -implicitDefEqProofs only [kR_e, kQ_e, push_cast, Nat.reduceBEq, Nat.reduceAdd, Nat.reduceSub, Nat.reduceMul, Nat.reduceLT, Nat.reduceLeDiff, Nat.reduceEqDiff, reduceIte, Bool.not_true, Bool.not_false, true_and, and_true, Option.map_some, Option.bind_some, Int.toNat_natCast])
    refine gb (fun h3 => ?_) (fun h3 => ?_)
    · have hwx : w = x.1 := by simpa using h3
      obtain ⟨k, y, hy, hxy, ho⟩ : ∃ (k : Nat) (y : Epo), b[k]? = some y ∧ x.1 = y.1 ∧ o = endp b k be := by
        rcases hcom with ⟨_, h⟩ | ⟨h, _⟩
        · exact h
        · exact absurd hwx h
      (repeat first | (with_reducible intro _) | refine go_seq ?_ | refine go_skip ?_ | refine go_lab ?_ | refine go_blk ?_ | refine go_b ?_); refine go_r 39 47 (by decide) ?_; (try simp -implicitDefEqProofs only [kR_e, kQ_e, push_cast, Nat.reduceBEq, Nat.reduceAdd, Nat.reduceSub, Nat.reduceMul, Nat.reduceLT, Nat.reduceLeDiff, Nat.reduceEqDiff, reduceIte, Bool.not_true, Bool.not_false, true_and, and_true, Option.map_some, Option.bind_some, Int.toNat_natCast, c25r7])
      refine ⟨_, ⟨_, rfl, .g e4'⟩, ?_⟩
      (try simp -implicitDefEqProofs only [kR_e, kQ_e, push_cast, Nat.reduceBEq, Nat.reduceAdd, Nat.reduceSub, Nat.reduceMul, Nat.reduceLT, Nat.reduceLeDiff, Nat.reduceEqDiff, reduceIte, Bool.not_true, Bool.not_false, true_and, and_true, Option.map_some, Option.bind_some, Int.toNat_natCast])
      refine ⟨_, ⟨_, rfl, .g e5'⟩, ?_⟩
      (try simp -implicitDefEqProofs only [kR_e, kQ_e, push_cast, Nat.reduceBEq, Nat.reduceAdd, Nat.reduceSub, Nat.reduceMul, Nat.reduceLT, Nat.reduceLeDiff, Nat.reduceEqDiff, reduceIte, Bool.not_true, Bool.not_false, true_and, and_true, Option.map_some, Option.bind_some, Int.toNat_natCast])
      refine (EndOf_ok _ x.1 ae _ G' ha5 hla _ _).mono ?_
      rintro v h' ⟨⟨w2, o2, rfl, hw2⟩, rfl⟩
      obtain ⟨rfl, ho2⟩ := endR_at hca hx hw2
      (try simp -implicitDefEqProofs only [kR_e, kQ_e, push_cast, Nat.reduceBEq, Nat.reduceAdd, Nat.reduceSub, Nat.reduceMul, Nat.reduceLT, Nat.reduceLeDiff, Nat.reduceEqDiff, reduceIte, Bool.not_true, Bool.not_false, true_and, and_true, Option.map_some, Option.bind_some, Int.toNat_natCast])
      have hmn : (if o < o2 then o else o2) = min o2 o := by split <;> omega
      (repeat first | (with_reducible intro _) | refine go_seq ?_ | refine go_skip ?_ | refine go_lab ?_ | refine go_blk ?_ | refine go_b ?_); refine go_r 47 50 (by decide) ?_; (try simp -implicitDefEqProofs only [kR_e, kQ_e, push_cast, Nat.reduceBEq, Nat.reduceAdd, Nat.reduceSub, Nat.reduceMul, Nat.reduceLT, Nat.reduceLeDiff, Nat.reduceEqDiff, reduceIte, Bool.not_true, Bool.not_false, true_and, and_true, Option.map_some, Option.bind_some, Int.toNat_natCast, c25r8, hmn])
      refine stX_blk [_] [] rfl (by simp) ⟨rfl, rfl⟩ ?_
      (try simp -implicitDefEqProofs only [kR_e, kQ_e, push_cast, Nat.reduceBEq, Nat.reduceAdd, Nat.reduceSub, Nat.reduceMul, Nat.reduceLT, Nat.reduceLeDiff, Nat.reduceEqDiff, reduceIte, Bool.not_true, Bool.not_false, true_and, and_true, Option.map_some, Option.bind_some, Int.toNat_natCast])
      (repeat first | (with_reducible intro _) | refine go_seq ?_ | refine go_skip ?_ | refine go_lab ?_ | refine go_blk ?_ | refine go_b ?_)
      refine go_ret (rnd_r [.blk b8 [.int .i64 (min o2 o)]] (.cons _ (List.Sublist.refl _)) (noRegs_blk noRegs_nil) ⟨rfl, _, rfl, ?_⟩)
      refine .inr ⟨hca, hcb, .inr ⟨_, x, k, y, hx, hy, hxy, fun i' x' k' y' hi hx' hy' => ?_, ?_⟩⟩
      · have hi' := (List.getElem?_eq_some_iff.1 hx').1
        refine hno (a.length - 1 - i') x' k' y' (by omega) ?_ hy'
        rw [show a.length - 1 - (a.length - 1 - i') = i' by omega]
        exact hx'
      · rw [ho, ho2]; rfl
    · have hwx : ¬ w = x.1 := by simpa using h3
      (repeat first | (with_reducible intro _) | refine go_seq ?_ | refine go_skip ?_ | refine go_lab ?_ | refine go_blk ?_ | refine go_b ?_)
      refine go_nil (rnd_n [.blk b8 [.int .i64 0]] (.cons _ (List.Sublist.refl _)) (noRegs_blk noRegs_nil) ⟨rfl, fun t' x' k y ht' hx' hy => ?_⟩)
      by_cases htt : t' = t
      · subst htt
        rw [hx] at hx'
        cases hx'
        rcases hcom with ⟨h, _⟩ | ⟨_, h⟩
        · exact absurd h hwx
        · exact h k y hy
      · exact hno t' x' k y (by omega) hx' hy
  · rintro G' L' dd hgl ⟨rfl, hno⟩ _
    (repeat first | (with_reducible intro _) | refine go_seq ?_ | refine go_skip ?_ | refine go_lab ?_ | refine go_blk ?_ | refine go_b ?_); refine go_r 0 0 (by decide) ?_; (try simp -implicitDefEqProofs only [kR_e, kQ_e, push_cast, Nat.reduceBEq, Nat.reduceAdd, Nat.reduceSub, Nat.reduceMul, Nat.reduceLT, Nat.reduceLeDiff, Nat.reduceEqDiff, reduceIte, Bool.not_true, Bool.not_false, true_and, and_true, Option.map_some, Option.bind_some, Int.toNat_natCast, c25r9])
    refine stX_blk [] [] rfl (by simp) ⟨rfl, rfl⟩ ?_
    (try simp -implicitDefEqProofs only [kR_e, kQ_e, push_cast, Nat.reduceBEq, Nat.reduceAdd, Nat.reduceSub, Nat.reduceMul, Nat.reduceLT, Nat.reduceLeDiff, Nat.reduceEqDiff, reduceIte, Bool.not_true, Bool.not_false, true_and, and_true, Option.map_some, Option.bind_some, Int.toNat_natCast])
    (repeat first | (with_reducible intro _) | refine go_seq ?_ | refine go_skip ?_ | refine go_lab ?_ | refine go_blk ?_ | refine go_b ?_)
    refine go_ret (fin 0 _ _ _ (.inr ⟨hca, hcb, .inl ⟨fun i x k y hx hy => ?_, rfl⟩⟩) (by (try simp -implicitDefEqProofs only [kR_e, kQ_e, push_cast, Nat.reduceBEq, Nat.reduceAdd, Nat.reduceSub, Nat.reduceMul, Nat.reduceLT, Nat.reduceLeDiff, Nat.reduceEqDiff, reduceIte, Bool.not_true, Bool.not_false, true_and, and_true, Option.map_some, Option.bind_some, Int.toNat_natCast])))
    have hi := (List.getElem?_eq_some_iff.1 hx).1
    refine hno (a.length - 1 - i) x k y (by simp; omega) ?_ hy
    rw [show a.length - 1 - (a.length - 1 - i) = i by omega]
    exact hx
  · rintro ex t G' L' dd _ hgl ⟨rfl, m, rfl, hmm⟩ _
    rw [kS_ret]
    exact fin m _ _ _ hmm (by (try simp -implicitDefEqProofs only [kR_e, kQ_e, push_cast, Nat.reduceBEq, Nat.reduceAdd, Nat.reduceSub, Nat.reduceMul, Nat.reduceLT, Nat.reduceLeDiff, Nat.reduceEqDiff, reduceIte, Bool.not_true, Bool.not_false, true_and, and_true, Option.map_some, Option.bind_some, Int.toNat_natCast]))
end Go.Proofs.Ytgclikgkfchmlaa
