/- Parts of a proof, 4 texts in one file. No condition. -/
import Derived.Laws.Strings
import Derived.Test.YtfhheomeebejnaaM1
import Derived.Test.YtfhheomeebejnaaM2
import Derived.Test.YtfhheomeebejnaaM3
import Derived.Test.YtfhheomeebejnaaM4

/- Bytes, part 14 of a proof: a batch, written, by the document. No condition. -/
set_option linter.unusedSimpArgs false
set_option linter.unusedVariables false
namespace Go.Proofs.Ytfhheomeebejnaa
open Go Go.Kx
theorem F51 : Fun Try.prog 51 91 v51 c51 o51 := Fun.mk' Try.func51 Try.ntmps51 (by kernel_rfl) (by kernel_rfl) s51 q51
theorem cells_i : ∀ (l : List Int), (∀ x ∈ l, I64 x) → Cells IE 1 l (l.map fun n => .int .i64 n)
  | [], _ => .nil
  | n :: l, h => .cons (cs := [.int .i64 n]) ⟨rfl, h n (.head _)⟩ rfl (cells_i l fun x hx => h x (.tail _ hx))
theorem mark_r {n : Int} (h : n = 0 ∨ n = 1 ∨ n = 2) : IntKind.u8.wrap (IntKind.i64.wrap (n + 4)) = ((UInt8.ofNat (n.toNat + 4)).toNat : Int) := by
  rcases h with rfl | rfl | rfl <;> rfl
/-- The bytes of the first records. -/
def tailK (x : Batch) (k : Nat) : List UInt8 := tailB { x with recs := x.recs.take k }
theorem tailK_0 (x : Batch) : tailK x 0 = [] := by simp [tailK, tailB]
theorem tailK_n (x : Batch) : tailK x x.recs.length = tailB x := by simp [tailK]
theorem tailK_pos {x : Batch} {k : Nat} {r0 : Rec} (h0 : x.recs[0]? = some r0) (hk : 0 < k) : tailK x k = pvB r0.stamp ++ recsB x.base r0.stamp (x.recs.take k) := by
  match hr : x.recs, h0 with
  | r :: rs, h0 =>
    simp at h0
    subst h0
    obtain ⟨k, rfl⟩ : ∃ j, k = j + 1 := ⟨k - 1, by omega⟩
    simp [tailK, tailB, hr]
theorem tailK_succ {x : Batch} {k : Nat} {r r0 : Rec} (h0 : x.recs[0]? = some r0) (hr : x.recs[k]? = some r) : tailK x (k + 1) = tailK x k ++ (if k = 0 then pvB r0.stamp else []) ++ prB r x.base r0.stamp := by
  rw [tailK_pos h0 (by omega), recsB_succ hr]
  by_cases hk : k = 0
  · subst hk
    simp [tailK_0, recsB]
  · rw [tailK_pos h0 (by omega), if_neg hk]
    simp
theorem bytes_ok (x : Batch) (cs : List Value) (G : Nat → Option Obj) (hx : BE G x cs) (hf : Form x) : FnO Try.prog 51 #[.agg cs.toArray] G [] (fun _ L' r => OwnB (bytesB x) L' r) := by
  obtain ⟨A, c, rfl, ⟨hc, hm, hA⟩, i1, i2, i3, i4, i5, i6, i7, i8⟩ := hx
  have hf0 := hf
  obtain ⟨⟨f1, f2, f3⟩, ⟨f4, f5, f6⟩, ⟨f7, f8, f9, f10⟩, f11, f12, f13⟩ := hf
  simp [rng] at f1 f2 f3 f4 f5 f6
  refine F51.fnO (by simp) noRegs_nil (go_of ?_)
  unfold c51 cellH
  have w1 : IntKind.i64.wrap (x.last - x.base) = x.last - x.base := by rw [w64_id] <;> omega
  have hin : ∀ n ∈ headN x, I64 n := by
    intro n hn
    simp [headN] at hn
    unfold I64 at *
    omega
  (intros; try refine go_st ?_); refine go_r 0 0 (by decide) ?_; (refine sJ c51r0.eq_1 ?_; try with_reducible exact True.intro)
  (intros; try refine go_st ?_); refine go_r 0 0 (by decide) ?_; (refine sJ c51r1.eq_1 ?_; try with_reducible exact True.intro)
  (intros; try refine go_st ?_); refine go_r 12 28 (by decide) ?_; (refine sJ2 c51r2.eq_1 @w1 ?_; try with_reducible exact True.intro)
  intro b0 hb0
  (refine sI ?_; try with_reducible exact True.intro)
  (intros; try refine go_st ?_)
  refine go_gx (gx_slv_at [] _ (by decide) (cells_i _ hin)) ?_
  rintro h' ⟨G1, rfl, hg1, A7, c7, hA7e, hl7, hm7, hA7⟩
  cases hA7e
  refine go_ghost (ghost_nil none 5 1) ?_
  refine go_loop (fun e h => ∃ (k : Nat) (G' : Nat → Option Obj) (u : Value) (zc : List Value), (k ≤ 7 ∧ Gle G1 G' ∧ Cells UE 1 (headB ((headN x).take k)) zc) ∧ e 30 = .int .i64 k ∧ e 29 = .int .i64 7 ∧ e 28 = .slice (some ⟨b0, 0, none⟩) 7 7 ∧ e 3 = u ∧ h.G = G' ∧ h.D = [] ∧ [.row u 5 1 (headB ((headN x).take k)).length zc, .reg 1 [.int .i64 x.base, .int .i64 x.last, .int .i64 x.src, .int .i64 x.epoch, .int .i64 x.pid, .int .i64 x.gen, .int .i64 x.seq, .bool x.txn, .int .i64 x.ctl, .slice A x.recs.length c]].Sublist h.L) (fun e h => 7 - iv (e 30)) ?_ ?_
  · exact ⟨0, G1, _, [], ⟨Nat.zero_le _, .refl _, .nil⟩, eE, by (refine sI ?_; try with_reducible exact True.intro); rfl, eE, eE, rfl, rfl, List.Sublist.refl _⟩
  · rintro e ⟨G', L, D⟩ ⟨k, G2, u, zc, ⟨hk, hgg, hcs⟩, e30, e29, e28, e3, hG, hD, hL⟩
    dsimp only at hG hD hL
    subst hG hD
    refine go_ghost (ghost_sub hL) ?_
    refine go_keep [3, 28, 29, 30] ?_
    (refine sJ4 @e3 @e28 @e29 @e30 ?_; try with_reducible exact True.intro)
    have hhl := headB_len ((headN x).take k)
    have hh7 : ((headN x).take k).length ≤ 7 := by simp [headN]; omega
    (intros; try refine go_st ?_); refine go_r 0 0 (by decide) ?_; (refine sJ c51r3.eq_1 ?_; try with_reducible exact True.intro)
    (intros; try refine go_st ?_); refine go_c ?_; (refine sI ?_; try with_reducible exact True.intro)
    refine gb (fun ht => ?_) (fun ht => ?_)
    · have hkl : k < 7 := by simp at ht; omega
      have hw3 := inc_i k 7 (by omega) (by unfold maxLen; omega)
      obtain ⟨n, hn⟩ : ∃ n, (headN x)[k]? = some n := ⟨(headN x)[k]'(by simp [headN]; omega), List.getElem?_eq_getElem _⟩
      have hsucc := headB_succ hn
      have hA7' := hA7.le hgg (E' := IE) fun _ _ h => h
      (repeat first | (with_reducible intro _) | refine go_skip ?_ | refine go_b ?_)
      (intros; try refine go_st ?_); refine go_r 32 34 (by decide) ?_; (refine sJ c51r4.eq_1 ?_; try with_reducible exact True.intro)
      refine hA7'.x_l1 hn rfl rfl ?_
      rintro a1 ha1 v ⟨hv, hni⟩
      cases hv
      (refine sI ?_; try with_reducible exact True.intro)
      (intros; try refine go_st ?_); refine go_r 34 37 (by decide) ?_; (refine sJ c51r5.eq_1 ?_; try with_reducible exact True.intro)
      refine callsH_gx F66.enters (gx_slv_at [] _ (by decide) hcs) ?_
      rintro h' ⟨G3, rfl, hg3, hv3⟩
      refine (RPutVar_ok _ n hni _ G3 hv3 (by omega) _ []).mono ?_
      rintro r h' ⟨G4, L', rfl, hg4, ys, hys, rfl⟩
      rw [← hsucc] at hys ⊢
      (refine sI ?_; try with_reducible exact True.intro)
      (intros; try refine go_st ?_); refine go_r 37 38 (by decide) ?_; (refine sJ2 c51r6.eq_1 @hw3 ?_; try with_reducible exact True.intro)
      (intros; try refine go_st ?_)
      refine go_l ⟨⟨k + 1, G4, _, ys, ⟨by omega, hgg.trans (hg3.trans hg4), hys⟩, eE, eE, eE, eE, rfl, rfl, List.Sublist.refl _⟩, ?_⟩
      (refine sI ?_; try with_reducible exact True.intro)
      omega
    · have hkl : k = 7 := by simp at ht; omega
      subst hkl
      rw [show (headN x).take 7 = headN x from rfl] at hcs hhl ⊢
      have hmx := form_recs hf0
      have hh8 : (headN x).length = 7 := rfl
      have hgg' := hg1.trans hgg
      refine go_exit ?_
      (refine sI ?_; try with_reducible exact True.intro)
      (intros; try refine go_st ?_); refine go_r 39 40 (by decide) ?_; (refine sJ c51r7.eq_1 ?_; try with_reducible exact True.intro)
      (repeat (with_reducible intro _)); try refine go_seq ?_
      have hctl : x.ctl = 0 ∨ x.ctl = 1 ∨ x.ctl = 2 := by
        rcases f13 with h | h
        · exact .inl h.1
        · exact .inr h.1
      refine go_cut (fun e h => ∃ n : Int, e 3 = u ∧ e 6 = .int .i64 n ∧ IntKind.u8.wrap n = ((markB x).toNat : Int) ∧ h = ⟨G', [.row u 5 1 (headB (headN x)).length zc, .reg 1 [.int .i64 x.base, .int .i64 x.last, .int .i64 x.src, .int .i64 x.epoch, .int .i64 x.pid, .int .i64 x.gen, .int .i64 x.seq, .bool x.txn, .int .i64 x.ctl, .slice A x.recs.length c]], []⟩) ?_ ?_
      · (intros; try refine go_st ?_); refine go_r 0 0 (by decide) ?_; (refine sJ c51r8.eq_1 ?_; try with_reducible exact True.intro)
        (intros; try refine go_st ?_); refine go_c ?_; (refine sI ?_; try with_reducible exact True.intro)
        refine gb (fun k1 => ?_) (fun k1 => ?_)
        · (intros; try refine go_st ?_); refine go_r 42 44 (by decide) ?_; (refine sJ c51r9.eq_1 ?_; try with_reducible exact True.intro)
          (intros; try refine go_st ?_)
          refine go_l ⟨IntKind.i64.wrap (x.ctl + 4), eE, eE, ?_, rfl⟩
          rw [mark_r hctl, markB, if_pos k1]
        · (intros; try refine go_st ?_)
          refine go_l ⟨x.ctl, eE, eE, ?_, rfl⟩
          rw [mark_0 hctl, markB, if_neg (by rw [k1]; simp)]
          rfl
      rintro e h ⟨nm, e3, e6, hnm, rfl⟩
      refine go_keep [3, 6] ?_
      (refine sJ2 @e3 @e6 ?_; try with_reducible exact True.intro)
      (intros; try refine go_st ?_); refine go_x _ (.cons _ (List.Sublist.refl _)) (by decide) ?_; (refine sJ2 c51r10.eq_1 @hnm ?_; try with_reducible exact True.intro)
      intro bk hbk
      refine ⟨grow_L (fun _ _ h => h) (.cons _ (.cons _ (List.Sublist.refl _))), ?_⟩
      (refine sI ?_; try with_reducible exact True.intro)
      refine app8 (L1 := []) (L2 := [_]) (x := markB x) rfl rfl hcs (by omega) fun A' c' zc' hzc => ?_
      (refine sI ?_; try with_reducible exact True.intro)
      refine ⟨grow_L (fun _ _ h => h) (.cons _ (.cons _ (List.Sublist.refl _))), ?_⟩
      (refine sI ?_; try with_reducible exact True.intro)
      refine callsH_gx F66.enters (gx_slv_at [_] _ (by decide) hzc) ?_
      rintro h' ⟨G4, rfl, hg4, hv4⟩
      refine (RPutVar_ok _ x.recs.length (by unfold I64; omega) _ G4 hv4 (by simp; omega) _ []).mono ?_
      rintro r h' ⟨G5, L', rfl, hg5, ys5, hys5, rfl⟩
      refine ⟨grow_L (hg4.trans hg5) (.cons _ (.cons _ (List.Sublist.refl _))), ?_⟩
      (refine sI ?_; try with_reducible exact True.intro)
      have hpl := pvB_len x.recs.length
      (repeat first | (with_reducible intro _) | refine go_seq ?_)
      refine go_ghost (ghost_sub (L' := [.row r 5 1 (headB (headN x) ++ [markB x] ++ pvB x.recs.length).length ys5, .reg 1 [.int .i64 x.base, .int .i64 x.last, .int .i64 x.src, .int .i64 x.epoch, .int .i64 x.pid, .int .i64 x.gen, .int .i64 x.seq, .bool x.txn, .int .i64 x.ctl, .slice A x.recs.length c]]) (.cons_cons _ (.cons _ (List.Sublist.refl _)))) ?_
      generalize hP : headB (headN x) ++ [markB x] ++ pvB x.recs.length = P at hys5 ⊢
      have hPl : P.length ≤ 90 := by rw [← hP]; simp; omega
      have hA5 := hA.le (hgg'.trans (hg4.trans hg5)) (E' := RR) fun _ _ h => h
      (intros; try refine go_st ?_); refine go_r 0 0 (by decide) ?_; (refine sJ c51r11.eq_1 ?_; try with_reducible exact True.intro)
      (intros; try refine go_st ?_)
      refine go_loop (fun e h => ∃ (k : Nat) (G' : Nat → Option Obj) (u : Value) (zc zs : List Value), (k ≤ x.recs.length ∧ Gle G5 G' ∧ Cells UE 1 (P ++ tailK x k) zc ∧ (tailK x k).length ≤ 179 * k) ∧ e 56 = .int .i64 k ∧ e 55 = .int .i64 x.recs.length ∧ e 54 = .slice A x.recs.length c ∧ e 3 = u ∧ h.G = G' ∧ h.D = [] ∧ [.row u 5 1 (P ++ tailK x k).length zc, .reg 1 [.int .i64 x.base, .int .i64 x.last, .int .i64 x.src, .int .i64 x.epoch, .int .i64 x.pid, .int .i64 x.gen, .int .i64 x.seq, .bool x.txn, .int .i64 x.ctl, .slice A x.recs.length c]].Sublist h.L) (fun e h => x.recs.length - iv (e 56)) ?_ ?_
      · exact ⟨0, G5, r, ys5, [], ⟨Nat.zero_le _, .refl _, by simpa [tailK_0] using hys5, by simp [tailK_0]⟩, eE, eE, eE, eE, rfl, rfl, by simp [tailK_0]⟩
      · rintro e ⟨G'', L, D⟩ ⟨k, G2, u2, zc2, -, ⟨hk, hgg2, hcs2, hrl⟩, e56, e55, e54, e3, hG, hD, hL⟩
        dsimp only at hG hD hL
        subst hG hD
        refine go_ghost (ghost_sub hL) ?_
        refine go_keep [3, 54, 55, 56] ?_
        (refine sJ4 @e3 @e54 @e55 @e56 ?_; try with_reducible exact True.intro)
        (intros; try refine go_st ?_); refine go_r 0 0 (by decide) ?_; (refine sJ c51r12.eq_1 ?_; try with_reducible exact True.intro)
        (intros; try refine go_st ?_); refine go_c ?_; (refine sI ?_; try with_reducible exact True.intro)
        refine gb (fun ht => ?_) (fun ht => ?_)
        · have hkl : k < x.recs.length := by simpa using ht
          have hw3 := inc_i k c (by omega) hm
          obtain ⟨r, hr⟩ : ∃ r, x.recs[k]? = some r := ⟨x.recs[k], List.getElem?_eq_getElem (by omega)⟩
          obtain ⟨r0, h0⟩ : ∃ r, x.recs[0]? = some r := ⟨x.recs[0], List.getElem?_eq_getElem (by omega)⟩
          have hsucc := tailK_succ h0 hr
          have hck0 := hmx.1 r0 (List.mem_of_getElem? h0)
          obtain ⟨⟨-, q0⟩, -, -⟩ := chk_small hck0
          simp [inO] at q0
          have hst : I64 r0.stamp := by unfold I64; omega
          have hpst := pvB_len r0.stamp
          have hckr := hmx.1 r (List.mem_of_getElem? hr)
          have hcs' := chk_small hckr
          have hplr := prB_len (base := x.base) (stamp := r0.stamp) hcs'.2.1 hcs'.2.2
          have hput : putR r x.base r0.stamp = (prB r x.base r0.stamp, 0) := by
            rw [putR, if_neg (by simp [hckr]), if_neg (by simp [inO, f1, q0])]
          have hAk := hA5.le hgg2 (E' := RR) fun _ _ h => h
          (repeat first | (with_reducible intro _) | refine go_skip ?_ | refine go_b ?_)
          (intros; try refine go_st ?_); refine go_r 58 61 (by decide) ?_; (refine sJ c51r13.eq_1 ?_; try with_reducible exact True.intro)
          refine hAk.x_ld hr rfl rfl ?_
          rintro a1 ha1 cs ⟨rfl, -⟩
          have hPut := RPut_ok r x.base r0.stamp
          unfold cellR at hPut ⊢
          (refine sI ?_; try with_reducible exact True.intro)
          (repeat (with_reducible intro _)); try refine go_seq ?_
          refine go_ghost (ghost_perm (.swap _ _ _)) ?_
          refine go_cut (fun e h => ∃ (u : Value) (zc : List Value) (G3 : Nat → Option Obj), e 56 = .int .i64 k ∧ e 55 = .int .i64 x.recs.length ∧ e 54 = .slice A x.recs.length c ∧ e 3 = u ∧ Cells UE 1 (P ++ tailK x k ++ (if k = 0 then pvB r0.stamp else [])) zc ∧ Gle G'' G3 ∧
            h = ⟨G3, [.row u 5 1 (P ++ tailK x k ++ (if k = 0 then pvB r0.stamp else [])).length zc, .reg 8 [.int .i64 r.off, .string r.key, .string r.val, .bool r.dead, .int .i64 r.stamp], .reg 1 [.int .i64 x.base, .int .i64 x.last, .int .i64 x.src, .int .i64 x.epoch, .int .i64 x.pid, .int .i64 x.gen, .int .i64 x.seq, .bool x.txn, .int .i64 x.ctl, .slice A x.recs.length c]], []⟩) ?_ ?_
          · (intros; try refine go_st ?_); refine go_r 61 62 (by decide) ?_; (refine sJ c51r14.eq_1 ?_; try with_reducible exact True.intro)
            (intros; try refine go_st ?_); refine go_c ?_; (refine sI ?_; try with_reducible exact True.intro)
            refine gb (fun k1 => ?_) (fun k1 => ?_)
            · have hk0 : k = 0 := by simpa using k1
              subst hk0
              obtain rfl : r = r0 := by rw [h0] at hr; cases hr; rfl
              (intros; try refine go_st ?_); refine go_r 63 67 (by decide) ?_; (refine sJ c51r15.eq_1 ?_; try with_reducible exact True.intro)
              refine callsH_gx F66.enters (gx_slv_at [] _ (by decide) hcs2) ?_
              rintro h' ⟨G6, rfl, hg6, hv6⟩
              refine (RPutVar_ok _ r.stamp hst _ G6 hv6 (by simp; omega) _ []).mono ?_
              rintro r h' ⟨G7, L', rfl, hg7, ys7, hys7, rfl⟩
              (refine sI ?_; try with_reducible exact True.intro)
              (intros; try refine go_st ?_)
              exact go_l ⟨_, ys7, G7, eE, eE, eE, eE, hys7, hg6.trans hg7, rfl⟩
            · have hk0 : ¬ k = 0 := by simpa using k1
              rw [if_neg hk0, List.append_nil]
              (intros; try refine go_st ?_)
              exact go_l ⟨_, zc2, G'', eE, eE, eE, eE, hcs2, .refl _, rfl⟩
          rintro e h ⟨u3, zc3, G3, e56, e55, e54, e3, hcs3, hg3, rfl⟩
          refine go_keep [3, 54, 55, 56] ?_
          (refine sJ4 @e3 @e54 @e55 @e56 ?_; try with_reducible exact True.intro)
          have hA3 := hAk.le hg3 (E' := RR) fun _ _ h => h
          (intros; try refine go_st ?_); refine go_x _ (.cons _ (List.Sublist.refl _)) (by decide) ?_; (refine sJ c51r16.eq_1 ?_; try with_reducible exact True.intro)
          refine hA3.y_lf h0 rfl rfl (fun cs h => by rw [h.1]; rfl) fun a ha => ?_
          (refine sI ?_; try with_reducible exact True.intro)
          refine (hPut G3 _ []).mono ?_
          rintro v h' ⟨G8, L', rfl, hg8, w, rfl, ys8, hys8, rfl⟩
          rw [hput] at hys8 ⊢
          refine ⟨grow_L hg8 (.cons _ (.cons _ (List.Sublist.refl _))), ?_⟩
          (refine sI ?_; try with_reducible exact True.intro)
          (repeat first | (with_reducible intro _) | refine go_seq ?_)
          refine go_gx (gx_slv_at [] _ (by decide) hys8) ?_
          rintro h' ⟨G9, rfl, hg9, hv9⟩
          (intros; try refine go_st ?_); refine go_r 79 82 (by decide) ?_; (refine sJ c51r17.eq_1 ?_; try with_reducible exact True.intro)
          refine apX_v (L1 := []) (.inl rfl) hv9 rfl UE1 (by simp; unfold maxLen; split <;> simp <;> omega) fun ys' A' c' hc' => ?_
          have hh := hcs3.app hc'
          have hassoc : P ++ tailK x k ++ (if k = 0 then pvB r0.stamp else []) ++ prB r x.base r0.stamp = P ++ tailK x (k + 1) := by rw [hsucc]; simp
          rw [hassoc] at hh
          rw [← List.length_append, hassoc]
          (refine sI ?_; try with_reducible exact True.intro)
          (intros; try refine go_st ?_); refine go_r 82 83 (by decide) ?_; (refine sJ2 c51r18.eq_1 @hw3 ?_; try with_reducible exact True.intro)
          (intros; try refine go_st ?_)
          refine go_l ⟨⟨k + 1, G9, _, _, [], ⟨by omega, hgg2.trans (hg3.trans (hg8.trans hg9)), hh, by rw [hsucc]; simp only [List.length_append]; split <;> (try simp only [List.length_nil]) <;> omega⟩, eE, eE, eE, eE, rfl, rfl, .cons_cons _ (.cons _ (List.Sublist.refl _))⟩, ?_⟩
          (refine sI ?_; try with_reducible exact True.intro)
          omega
        · have hkl : k = x.recs.length := by simp at ht; omega
          subst hkl
          rw [tailK_n] at hcs2 hrl
          have hbody : bodyB x = P ++ tailB x := by rw [bodyB, ← hP]
          refine go_exit ?_
          (refine sI ?_; try with_reducible exact True.intro)
          rw [tailK_n, ← hbody]
          rw [← hbody] at hcs2
          have hbl : (bodyB x).length ≤ 5000 := by rw [hbody]; simp; omega
          (intros; try refine go_st ?_); refine go_r 83 85 (by decide) ?_; (refine sJ c51r19.eq_1 ?_; try with_reducible exact True.intro)
          refine callsH_gx F68.enters (gx_slv_at [] _ (by decide) hcs2) ?_
          rintro h' ⟨G7, rfl, hg7, hv7⟩
          refine (RSeal_ok _ _ G7 hv7 (by omega) _ []).mono ?_
          rintro r h' ⟨G8, L', rfl, hg8, ys, hys, rfl⟩
          (refine sI ?_; try with_reducible exact True.intro)
          intro _
          have hsl := sealB_len (bodyB x)
          refine go_gx (gx_slv_at [] _ (by decide) hys) ?_
          rintro h' ⟨G9, rfl, hg9, hv9⟩
          obtain ⟨As, cs', rfl, -, -, -⟩ := id hv9
          have hwl : IntKind.u64.wrap ((sealB (bodyB x)).length : Int) = ((sealB (bodyB x)).length : Int) := by rw [IntKind.wrap_u64]; omega
          (intros; try refine go_st ?_); refine go_r 85 91 (by decide) ?_; (refine sJ2 c51r20.eq_1 @hwl ?_; try with_reducible exact True.intro)
          refine (ROPut_ok [] (sealB (bodyB x)).length 4 (by omega) (by omega) _ G9 SB.nil (by simp) _ []).mono ?_
          rintro r h' ⟨G10, L', rfl, hg10, ys2, hys2, rfl⟩
          simp only [List.nil_append] at hys2 ⊢
          (refine sI ?_; try with_reducible exact True.intro)
          refine apX_v (L1 := []) (.inl rfl) (SB.le hv9 hg10) rfl UE1 (by rw [putN_len]; unfold maxLen; omega) fun ys' A' c' hc' => ?_
          have hh := hys2.app hc'
          (refine sI ?_; try with_reducible exact True.intro)
          (intros; try refine go_st ?_)
          refine go_ret (retQ_o _ rfl (.cons_cons _ (List.nil_sublist _)) (noRegs_row noRegs_nil) ?_)
          rw [← List.length_append]
          exact ⟨_, hh, rfl⟩
end Go.Proofs.Ytfhheomeebejnaa

/- Bytes, part 15 of a proof: whether a batch may be, how many bytes it has, and which. No condition. -/
set_option linter.unusedSimpArgs false
set_option linter.unusedVariables false
namespace Go.Proofs.Ytfhheomeebejnaa
open Go Go.Kx
theorem F38 : Fun Try.prog 38 14 v38 c38 o38 := Fun.mk' Try.func38 Try.ntmps38 (by kernel_rfl) (by kernel_rfl) s38 q38
theorem F41 : Fun Try.prog 41 12 v41 c41 o41 := Fun.mk' Try.func41 Try.ntmps41 (by kernel_rfl) (by kernel_rfl) s41 q41
theorem F26 : Fun Try.prog 26 11 v26 c26 o26 := Fun.mk' Try.func26 Try.ntmps26 (by kernel_rfl) (by kernel_rfl) s26 q26
theorem F50 : Fun Try.prog 50 10 v50 c50 o50 := Fun.mk' Try.func50 Try.ntmps50 (by kernel_rfl) (by kernel_rfl) s50 q50
theorem F46 : Fun Try.prog 46 9 v46 c46 o46 := Fun.mk' Try.func46 Try.ntmps46 (by kernel_rfl) (by kernel_rfl) s46 q46
/-- Why a batch may not be. -/
def errB (b : Batch) : Int := if Form b then (if (bytesB b).length ≤ 2048 then 0 else 2) else 1
def putB (b : Batch) : List UInt8 × Int := if errB b = 0 then (bytesB b, 0) else ([], errB b)
def sizeB (b : Batch) : Nat := (putB b).1.length
theorem errB_n {b : Batch} (h : ¬ Form b) : errB b = 1 := if_neg h
theorem errB_2 {b : Batch} (h : Form b) (h2 : ¬ (bytesB b).length ≤ 2048) : errB b = 2 := by rw [errB, if_pos h, if_neg h2]
theorem errB_0 {b : Batch} (h : Form b) (h2 : (bytesB b).length ≤ 2048) : errB b = 0 := by rw [errB, if_pos h, if_pos h2]
theorem putB_0 {b : Batch} (h : errB b = 0) : putB b = (bytesB b, 0) := if_pos h
theorem putB_n {b : Batch} (h : ¬ errB b = 0) : putB b = ([], errB b) := if_neg h
theorem errB_ok {b : Batch} (h : errB b = 0) : Form b ∧ (bytesB b).length ≤ 2048 := by
  unfold errB at h
  split at h
  · rename_i h1
    split at h
    · rename_i h2; exact ⟨h1, h2⟩
    · cases h
  · cases h
theorem bodyB_len {b : Batch} (hf : Form b) : (bodyB b).length ≤ 4900 := by
  obtain ⟨h1, h2⟩ := form_recs hf
  have a1 := headB_len (headN b)
  have a2 : (headN b).length = 7 := rfl
  have a3 := pvB_len b.recs.length
  have a4 : (tailB b).length ≤ 10 + 169 * b.recs.length := by
    cases hr : b.recs with
    | nil => simp [tailB, hr]
    | cons r rs =>
      have a5 := pvB_len r.stamp
      have a6 : ∀ (l : List Rec) (st : Int), (∀ r ∈ l, chkR r = 0) → (recsB b.base st l).length ≤ 169 * l.length := fun l => by
        induction l with
        | nil => simp [recsB]
        | cons q l ih =>
          intro st h
          have e1 := ih st fun r hr => h r (.tail _ hr)
          have e2 := chk_small (h q (.head _))
          have e3 := prB_len (base := b.base) (stamp := st) e2.2.1 e2.2.2
          simp [recsB] at e1 ⊢
          omega
      have a7 := a6 (r :: rs) r.stamp (by rw [← hr]; exact h1)
      simp only [tailB, hr, List.length_append]
      omega
  simp only [bodyB, List.length_append, List.length_cons, List.length_nil]
  omega
theorem bytesB_len (b : Batch) : (bytesB b).length = (bodyB b).length + 8 := by
  simp only [bytesB, List.length_append, putN_len, sealB_len]
  omega
theorem BPut_ok (x : Batch) (cs : List Value) (G : Nat → Option Obj) (hx : BE G x cs) : FnO Try.prog 38 #[.agg cs.toArray] G [] (fun _ L' r => OwnE (putB x) L' r) := by
  have h1 := formed_ok x cs G hx
  have h2 := write_ok x cs G hx
  obtain ⟨A, c, rfl, -⟩ := hx
  refine F38.fnO (by simp) noRegs_nil (go_of ?_)
  unfold c38
  unfold cellH at h1 h2 ⊢
  (intros; try refine go_st ?_); refine go_r 0 0 (by decide) ?_; (refine sJ c38r0.eq_1 ?_; try with_reducible exact True.intro)
  (intros; try refine go_st ?_); refine go_r 5 7 (by decide) ?_; (refine sJ c38r1.eq_1 ?_; try with_reducible exact True.intro)
  refine (h1 _ _).mono ?_; rintro _ _ ⟨rfl, rfl⟩; (refine sI ?_; try with_reducible exact True.intro)
  (intros; try refine go_st ?_); refine go_c ?_; (refine sI ?_; try with_reducible exact True.intro)
  refine gb (fun k1 => ?_) (fun k1 => ?_)
  · have k1 : ¬ Form x := by simpa using k1
    (intros; try refine go_st ?_); refine go_r 0 0 (by decide) ?_; (refine sJ c38r2.eq_1 ?_; try with_reducible exact True.intro)
    (intros; try refine go_st ?_)
    refine go_ghost (ghost_nil none 5 1) ?_
    refine go_ret (retQ_o _ rfl (.cons_cons _ (List.nil_sublist _)) (noRegs_row noRegs_nil) ?_)
    have he := errB_n k1
    rw [putB_n (by rw [he]; decide), he]
    exact ⟨_, rfl, [], .nil, rfl⟩
  have k1 : Form x := by simpa using k1
  have hbl := bodyB_len k1
  have hwl := bytesB_len x
  (repeat first | (with_reducible intro _) | refine go_skip ?_ | refine go_b ?_)
  (intros; try refine go_st ?_); refine go_r 8 10 (by decide) ?_; (refine sJ c38r3.eq_1 ?_; try with_reducible exact True.intro)
  refine (h2 k1 _ []).mono ?_
  rintro r h' ⟨G1, L', rfl, hg1, ys, hys, rfl⟩
  (refine sI ?_; try with_reducible exact True.intro)
  intro _
  (repeat (with_reducible intro _)); try refine go_seq ?_
  refine go_gx (gx_knowS (.head _)) ?_
  rintro h' ⟨rfl, A2, c2, rfl, hc2, hm2⟩
  (intros; try refine go_st ?_); refine go_r 10 12 (by decide) ?_; (refine sJ c38r4.eq_1 ?_; try with_reducible exact True.intro)
  (intros; try refine go_st ?_); refine go_c ?_; (refine sI ?_; try with_reducible exact True.intro)
  refine gb (fun k2 => ?_) (fun k2 => ?_)
  · have k2 : ¬ (bytesB x).length ≤ 2048 := by have := of_decide_eq_true k2; omega
    (intros; try refine go_st ?_); refine go_r 0 0 (by decide) ?_; (refine sJ c38r5.eq_1 ?_; try with_reducible exact True.intro)
    (intros; try refine go_st ?_)
    refine go_ghost (ghost_nil none 5 1) ?_
    refine go_ret (retQ_o _ rfl (.cons_cons _ (List.nil_sublist _)) (noRegs_row noRegs_nil) ?_)
    have he := errB_2 k1 k2
    rw [putB_n (by rw [he]; decide), he]
    exact ⟨_, rfl, [], .nil, rfl⟩
  · have k2 : (bytesB x).length ≤ 2048 := by have := of_decide_eq_false k2; omega
    (repeat first | (with_reducible intro _) | refine go_skip ?_ | refine go_b ?_)
    (intros; try refine go_st ?_); refine go_r 13 14 (by decide) ?_; (refine sJ c38r6.eq_1 ?_; try with_reducible exact True.intro)
    (intros; try refine go_st ?_)
    refine go_ret (retQ_o _ rfl (.cons_cons _ (List.nil_sublist _)) (noRegs_row noRegs_nil) ?_)
    rw [putB_0 (errB_0 k1 k2)]
    exact ⟨_, rfl, ys, hys, rfl⟩
theorem RBCheck_ok (x : Batch) (cs : List Value) (G : Nat → Option Obj) (hx : BE G x cs) : FnS Try.prog 50 #[.agg cs.toArray] G (.int .i64 (errB x)) := by
  have h1 := form_ok x cs G hx
  have h2 := bytes_ok x cs G hx
  obtain ⟨A, c, rfl, -⟩ := hx
  refine F50.fnS (by simp) (go_of ?_)
  unfold c50
  unfold cellH at h1 h2 ⊢
  (intros; try refine go_st ?_); refine go_r 0 0 (by decide) ?_; (refine sJ c50r0.eq_1 ?_; try with_reducible exact True.intro)
  (intros; try refine go_st ?_); refine go_r 3 5 (by decide) ?_; (refine sJ c50r1.eq_1 ?_; try with_reducible exact True.intro)
  refine (h1 _ _).mono ?_; rintro _ _ ⟨rfl, rfl⟩; (refine sI ?_; try with_reducible exact True.intro)
  (intros; try refine go_st ?_); refine go_c ?_; (refine sI ?_; try with_reducible exact True.intro)
  refine gb (fun k1 => ?_) (fun k1 => ?_)
  · have k1 : ¬ Form x := by simpa using k1
    (intros; try refine go_st ?_); refine go_r 0 0 (by decide) ?_; (refine sJ c50r2.eq_1 ?_; try with_reducible exact True.intro)
    (intros; try refine go_st ?_)
    refine go_ret (retQ_v rfl ?_); simp only [push_cast, Nat.reduceBEq]
    rw [errB_n k1]
  have k1 : Form x := by simpa using k1
  (repeat first | (with_reducible intro _) | refine go_skip ?_ | refine go_b ?_)
  (intros; try refine go_st ?_); refine go_r 6 9 (by decide) ?_; (refine sJ c50r3.eq_1 ?_; try with_reducible exact True.intro)
  refine (ownL_d (by decide) (h2 k1) _ []).mono ?_
  rintro r h' ⟨G1, rfl, hg1, A2, c2, rfl, hc2, hm2, hA2⟩
  (refine sI ?_; try with_reducible exact True.intro)
  (intros; try refine go_st ?_); refine go_c ?_; (refine sI ?_; try with_reducible exact True.intro)
  refine gb (fun k2 => ?_) (fun k2 => ?_)
  · have k2 : ¬ (bytesB x).length ≤ 2048 := by have := of_decide_eq_true k2; omega
    (intros; try refine go_st ?_); refine go_r 0 0 (by decide) ?_; (refine sJ c50r4.eq_1 ?_; try with_reducible exact True.intro)
    (intros; try refine go_st ?_)
    refine go_ret (retQ_v rfl ?_); simp only [push_cast, Nat.reduceBEq]
    rw [errB_2 k1 k2]
  · have k2 : (bytesB x).length ≤ 2048 := by have := of_decide_eq_false k2; omega
    (repeat first | (with_reducible intro _) | refine go_skip ?_ | refine go_b ?_)
    (intros; try refine go_st ?_); refine go_r 0 0 (by decide) ?_; (refine sJ c50r5.eq_1 ?_; try with_reducible exact True.intro)
    (intros; try refine go_st ?_)
    refine go_ret (retQ_v rfl ?_); simp only [push_cast, Nat.reduceBEq]
    rw [errB_0 k1 k2]
theorem RBPut_ok (x : Batch) (cs : List Value) (G : Nat → Option Obj) (hx : BE G x cs) : FnO Try.prog 41 #[.agg cs.toArray] G [] (fun _ L' r => OwnE (putB x) L' r) := by
  have h1 := RBCheck_ok x cs G hx
  have h2 := bytes_ok x cs G hx
  obtain ⟨A, c, rfl, -⟩ := hx
  refine F41.fnO (by simp) noRegs_nil (go_of ?_)
  unfold c41
  unfold cellH at h1 h2 ⊢
  (intros; try refine go_st ?_); refine go_r 0 0 (by decide) ?_; (refine sJ c41r0.eq_1 ?_; try with_reducible exact True.intro)
  (intros; try refine go_st ?_); refine go_r 5 7 (by decide) ?_; (refine sJ c41r1.eq_1 ?_; try with_reducible exact True.intro)
  refine (h1 _ _).mono ?_; rintro _ _ ⟨rfl, rfl⟩; (refine sI ?_; try with_reducible exact True.intro)
  (intros; try refine go_st ?_); refine go_r 7 8 (by decide) ?_; (refine sJ c41r2.eq_1 ?_; try with_reducible exact True.intro)
  (intros; try refine go_st ?_); refine go_c ?_; (refine sI ?_; try with_reducible exact True.intro)
  refine gb (fun k1 => ?_) (fun k1 => ?_)
  · have k1 : ¬ errB x = 0 := of_decide_eq_true k1
    (intros; try refine go_st ?_); refine go_r 9 10 (by decide) ?_; (refine sJ c41r3.eq_1 ?_; try with_reducible exact True.intro)
    (intros; try refine go_st ?_)
    refine go_ghost (ghost_nil none 5 1) ?_
    refine go_ret (retQ_o _ rfl (.cons_cons _ (List.nil_sublist _)) (noRegs_row noRegs_nil) ?_)
    rw [putB_n k1]
    exact ⟨_, rfl, [], .nil, rfl⟩
  have k1 : errB x = 0 := by simpa using k1
  (repeat first | (with_reducible intro _) | refine go_skip ?_ | refine go_b ?_)
  (intros; try refine go_st ?_); refine go_r 10 12 (by decide) ?_; (refine sJ c41r4.eq_1 ?_; try with_reducible exact True.intro)
  refine (h2 (errB_ok k1).1 _ []).mono ?_
  rintro r h' ⟨G1, L', rfl, hg1, ys, hys, rfl⟩
  (refine sI ?_; try with_reducible exact True.intro)
  (intros; try refine go_st ?_)
  refine go_ret (retQ_o _ rfl (.cons_cons _ (List.nil_sublist _)) (noRegs_row noRegs_nil) ?_)
  rw [putB_0 k1]
  exact ⟨_, rfl, ys, hys, rfl⟩
theorem putB_e (x : Batch) : (putB x).2 = errB x := by
  unfold putB
  split
  · rename_i h; exact h.symm
  · rfl
theorem BCheck_ok (x : Batch) (cs : List Value) (G : Nat → Option Obj) (hx : BE G x cs) : FnS Try.prog 26 #[.agg cs.toArray] G (.int .i64 (errB x)) := by
  have h1 := BPut_ok x cs G hx
  obtain ⟨A, c, rfl, -⟩ := hx
  refine F26.fnS (by simp) (go_of ?_)
  unfold c26
  unfold cellH at h1 ⊢
  (intros; try refine go_st ?_); refine go_r 0 0 (by decide) ?_; (refine sJ c26r0.eq_1 ?_; try with_reducible exact True.intro)
  (intros; try refine go_st ?_); refine go_r 5 10 (by decide) ?_; (refine sJ c26r1.eq_1 ?_; try with_reducible exact True.intro)
  refine (h1 _ []).mono ?_
  rintro r h' ⟨G1, L', rfl, hg1, u, rfl, ys, hys, rfl⟩
  (refine sI ?_; try with_reducible exact True.intro)
  (intros; try refine go_st ?_); refine go_r 10 11 (by decide) ?_; (refine sJ c26r2.eq_1 ?_; try with_reducible exact True.intro)
  (intros; try refine go_st ?_)
  refine go_ret (retQ_v rfl ?_); simp only [push_cast, Nat.reduceBEq]
  rw [putB_e]
theorem RSize_ok (x : Batch) (cs : List Value) (G : Nat → Option Obj) (hx : BE G x cs) : FnS Try.prog 46 #[.agg cs.toArray] G (.int .i64 (sizeB x)) := by
  have h1 := RBCheck_ok x cs G hx
  have h2 := bytes_ok x cs G hx
  obtain ⟨A, c, rfl, -⟩ := hx
  refine F46.fnS (by simp) (go_of ?_)
  unfold c46
  unfold cellH at h1 h2 ⊢
  (intros; try refine go_st ?_); refine go_r 0 0 (by decide) ?_; (refine sJ c46r0.eq_1 ?_; try with_reducible exact True.intro)
  (intros; try refine go_st ?_); refine go_r 3 5 (by decide) ?_; (refine sJ c46r1.eq_1 ?_; try with_reducible exact True.intro)
  refine (h1 _ _).mono ?_; rintro _ _ ⟨rfl, rfl⟩; (refine sI ?_; try with_reducible exact True.intro)
  (intros; try refine go_st ?_); refine go_c ?_; (refine sI ?_; try with_reducible exact True.intro)
  refine gb (fun k1 => ?_) (fun k1 => ?_)
  · have k1 : ¬ errB x = 0 := of_decide_eq_true k1
    (intros; try refine go_st ?_); refine go_r 0 0 (by decide) ?_; (refine sJ c46r2.eq_1 ?_; try with_reducible exact True.intro)
    (intros; try refine go_st ?_)
    refine go_ret (retQ_v rfl ?_); simp only [push_cast, Nat.reduceBEq]
    rw [sizeB, putB_n k1]
    rfl
  have k1 : errB x = 0 := by simpa using k1
  (repeat first | (with_reducible intro _) | refine go_skip ?_ | refine go_b ?_)
  (intros; try refine go_st ?_); refine go_r 6 9 (by decide) ?_; (refine sJ c46r3.eq_1 ?_; try with_reducible exact True.intro)
  refine (ownL_d (by decide) (h2 (errB_ok k1).1) _ []).mono ?_
  rintro r h' ⟨G1, rfl, hg1, A2, c2, rfl, hc2, hm2, hA2⟩
  (refine sI ?_; try with_reducible exact True.intro)
  (intros; try refine go_st ?_)
  refine go_ret (retQ_v rfl ?_); simp only [push_cast, Nat.reduceBEq]
  rw [sizeB, putB_0 k1]
end Go.Proofs.Ytfhheomeebejnaa

/- Bytes, part 16 of a proof: what is the same. No condition. -/
set_option linter.unusedSimpArgs false
set_option linter.unusedVariables false
namespace Go.Proofs.Ytfhheomeebejnaa
open Go Go.Kx
theorem F19 : Fun Try.prog 19 10 v19 c19 o19 := Fun.mk' Try.func19 Try.ntmps19 (by kernel_rfl) (by kernel_rfl) s19 q19
theorem beq_dec {α : Type} [BEq α] [LawfulBEq α] [DecidableEq α] (a b : α) : (a == b) = decide (a = b) := by by_cases h : a = b <;> simp [h]
theorem strAt_b {G : Nat → Option Obj} {v : Value} {l : List UInt8} (hl : SB G v l) {h : H} (hG : h.G = G) : StrAt h v ⟨l.toArray⟩ := by
  obtain ⟨G', L, D⟩ := h
  dsimp only at hG
  subst hG
  obtain ⟨A, c, rfl, hc, hm, hA⟩ := hl
  cases A with
  | none =>
    match l, hA with
    | [], _ => exact .inl ⟨c, rfl, rfl⟩
    | x :: xs, hA => obtain ⟨a, _, ha, _⟩ := hA 0 x rfl; cases ha
  | some a =>
    refine .inr ⟨a, c, rfl, fun j u hu => ?_⟩
    rw [byteCells_b] at hu
    simp [cellB] at hu
    obtain ⟨x, hx, rfl⟩ := hu
    obtain ⟨a', cs, ha, h1, h2, h3⟩ := hA j x hx
    cases ha
    have := h3 0 (.int .u8 (x.toNat : Int)) (by rw [h2]; rfl)
    simp at this
    exact .g this
theorem seq_b (a b : List UInt8) : binV .eql (.string ⟨a.toArray⟩) (.string ⟨b.toArray⟩) = some (.bool (decide (a = b))) := by
  have h : binV .eql (.string ⟨a.toArray⟩) (.string ⟨b.toArray⟩) = some (.bool ((ByteArray.mk a.toArray).toList == (ByteArray.mk b.toArray).toList)) := rfl
  rw [h, ByteArray.toList_mk, ByteArray.toList_mk, beq_dec]
theorem BSame_ok (l m : List UInt8) (v u : Value) (G : Nat → Option Obj) (hl : SB G v l) (hm : SB G u m) : FnS Try.prog 19 #[v, u] G (.bool (decide (l = m))) := by
  refine F19.fnS (by simp) (go_of ?_)
  unfold c19
  (intros; try refine go_st ?_); refine go_r 0 0 (by decide) ?_; (refine sJ c19r0.eq_1 ?_; try with_reducible exact True.intro)
  (intros; try refine go_st ?_); refine go_r 5 10 (by decide) ?_; (refine sJ c19r1.eq_1 ?_; try with_reducible exact True.intro)
  refine ⟨_, strAt_b hl rfl, ?_⟩
  (refine sI ?_; try with_reducible exact True.intro)
  refine ⟨_, strAt_b hm rfl, ?_⟩
  (refine sJ @seq_b ?_; try with_reducible exact True.intro)
  (intros; try refine go_st ?_)
  refine go_ret (retQ_v rfl ?_); simp only [push_cast, Nat.reduceBEq]
instance decRec (a b : Rec) : Decidable (a = b) := decidable_of_iff (a.off = b.off ∧ a.key = b.key ∧ a.val = b.val ∧ a.dead = b.dead ∧ a.stamp = b.stamp) (by cases a; cases b; simp)
instance decBatch (a b : Batch) : Decidable (a = b) := decidable_of_iff (a.base = b.base ∧ a.last = b.last ∧ a.src = b.src ∧ a.epoch = b.epoch ∧ a.pid = b.pid ∧ a.gen = b.gen ∧ a.seq = b.seq ∧ a.txn = b.txn ∧ a.ctl = b.ctl ∧ a.recs = b.recs) (by cases a; cases b; simp)
theorem take_succ_eq {α : Type} {a b : List α} {k : Nat} {x y : α} (h : a.take k = b.take k) (hx : a[k]? = some x) (hy : b[k]? = some y) (hxy : x = y) : a.take (k + 1) = b.take (k + 1) := by
  have h1 := List.getElem?_eq_some_iff.1 hx
  have h2 := List.getElem?_eq_some_iff.1 hy
  rw [List.take_succ_eq_append_getElem h1.1, List.take_succ_eq_append_getElem h2.1, h, h1.2, h2.2, hxy]
theorem BE.recs {G : Nat → Option Obj} {x : Batch} {cs : List Value} (h : BE G x cs) : ∃ A c, cs = cellH x (.slice A x.recs.length c) ∧ SlV G RR 5 (.slice A x.recs.length c) x.recs := by
  obtain ⟨A, c, h1, ⟨h2, h3, h4⟩, -⟩ := h
  exact ⟨A, c, h1, A, c, rfl, h2, h3, h4⟩
end Go.Proofs.Ytfhheomeebejnaa

/- Bytes, part 17 of a proof: batches that are short; the example. No condition. -/
set_option linter.unusedSimpArgs false
set_option linter.unusedVariables false
namespace Go.Proofs.Ytfhheomeebejnaa
open Go Go.Kx
theorem F14 : Fun Try.prog 14 29 v14 c14 o14 := Fun.mk' Try.func14 Try.ntmps14 (by kernel_rfl) (by kernel_rfl) s14 q14
theorem Few_ok (x : Batch) (cs : List Value) (G : Nat → Option Obj) (hx : BE G x cs) : FnE Try.prog 14 #[.agg cs.toArray] G (fun r => ∃ b, r = .bool b ∧ (b = true → x.recs.length ≤ 100)) := by
  obtain ⟨A, c, rfl, ⟨hc, hm, hA⟩, -⟩ := hx
  refine F14.fnE (by simp) (go_of ?_)
  unfold c14 cellH
  (intros; try refine go_st ?_); refine go_r 0 0 (by decide) ?_; (refine sJ c14r0.eq_1 ?_; try with_reducible exact True.intro)
  (intros; try refine go_st ?_); refine go_r 0 0 (by decide) ?_; (refine sJ c14r1.eq_1 ?_; try with_reducible exact True.intro)
  (intros; try refine go_st ?_); refine go_r 0 0 (by decide) ?_; (refine sJ c14r2.eq_1 ?_; try with_reducible exact True.intro)
  (intros; try refine go_st ?_)
  refine go_loop (fun e h => ∃ (k : Nat) (n : Int), (k ≤ x.recs.length) ∧ e 9 = .int .i64 k ∧ e 8 = .int .i64 x.recs.length ∧ e 7 = .slice A x.recs.length c ∧ e 3 = .int .i64 n ∧ h.G = G ∧ h.D = [] ∧ [.reg 1 [.int .i64 x.base, .int .i64 x.last, .int .i64 x.src, .int .i64 x.epoch, .int .i64 x.pid, .int .i64 x.gen, .int .i64 x.seq, .bool x.txn, .int .i64 x.ctl, .slice A x.recs.length c]].Sublist h.L) (fun e h => x.recs.length - iv (e 9)) ?_ ?_
  · exact ⟨0, 0, Nat.zero_le _, eE, eE, eE, eE, rfl, rfl, List.Sublist.refl _⟩
  · rintro e ⟨G', L, D⟩ ⟨k, n, hk, e9, e8, e7, e3, hG, hD, hL⟩
    dsimp only at hG hD hL
    subst hG hD
    refine go_ghost (ghost_sub hL) ?_
    refine go_keep [3, 7, 8, 9] ?_
    (refine sJ4 @e3 @e7 @e8 @e9 ?_; try with_reducible exact True.intro)
    (intros; try refine go_st ?_); refine go_r 0 0 (by decide) ?_; (refine sJ c14r3.eq_1 ?_; try with_reducible exact True.intro)
    (intros; try refine go_st ?_); refine go_c ?_; (refine sI ?_; try with_reducible exact True.intro)
    refine gb (fun ht => ?_) (fun ht => ?_)
    · have hkl : k < x.recs.length := by simpa using ht
      have hw3 := inc_i k c (by omega) hm
      obtain ⟨r, hr⟩ : ∃ r, x.recs[k]? = some r := ⟨x.recs[k], List.getElem?_eq_getElem (by omega)⟩
      (repeat first | (with_reducible intro _) | refine go_skip ?_ | refine go_b ?_)
      (intros; try refine go_st ?_); refine go_r 11 13 (by decide) ?_; (refine sJ c14r4.eq_1 ?_; try with_reducible exact True.intro)
      refine hA.x_ld hr rfl rfl ?_
      rintro a1 ha1 cs ⟨rfl, ⟨j1, j2⟩, j3, j4⟩
      unfold cellR
      (refine sI ?_; try with_reducible exact True.intro)
      (intros; try refine go_st ?_); refine go_r 13 22 (by decide) ?_; (refine sJ c14r5.eq_1 ?_; try with_reducible exact True.intro)
      generalize IntKind.i64.wrap _ = m2
      (intros; try refine go_st ?_); refine go_r 22 23 (by decide) ?_; (refine sJ c14r6.eq_1 ?_; try with_reducible exact True.intro)
      (intros; try refine go_st ?_); refine go_c ?_; (refine sI ?_; try with_reducible exact True.intro)
      refine gb (fun h1 => ?_) (fun h1 => ?_)
      · (intros; try refine go_st ?_); refine go_r 0 0 (by decide) ?_; (refine sJ c14r7.eq_1 ?_; try with_reducible exact True.intro)
        (intros; try refine go_st ?_)
        refine go_ret (retQ_v rfl ?_); simp only [push_cast, Nat.reduceBEq]
        exact ⟨false, rfl, fun h => by cases h⟩
      · have h1 := of_decide_eq_false h1
        (repeat first | (with_reducible intro _) | refine go_skip ?_ | refine go_b ?_)
        (intros; try refine go_st ?_); refine go_r 24 25 (by decide) ?_; (refine sJ2 c14r8.eq_1 @hw3 ?_; try with_reducible exact True.intro)
        (intros; try refine go_st ?_)
        refine go_l ⟨⟨k + 1, m2, by omega, eE, eE, eE, eE, rfl, rfl, .cons _ (List.Sublist.refl _)⟩, ?_⟩
        (refine sI ?_; try with_reducible exact True.intro)
        omega
    · refine go_exit ?_
      (refine sI ?_; try with_reducible exact True.intro)
      (intros; try refine go_st ?_); refine go_r 26 29 (by decide) ?_; (refine sJ c14r9.eq_1 ?_; try with_reducible exact True.intro)
      (intros; try refine go_st ?_)
      refine go_ret (retQ_v rfl ?_); simp only [push_cast, Nat.reduceBEq]
      exact ⟨_, rfl, fun h => by have := of_decide_eq_true h; omega⟩
instance decI64 (n : Int) : Decidable (I64 n) := by
  unfold I64
  infer_instance
end Go.Proofs.Ytfhheomeebejnaa
