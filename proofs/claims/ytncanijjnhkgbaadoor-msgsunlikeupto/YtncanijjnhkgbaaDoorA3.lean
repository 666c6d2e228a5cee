/- A part of the proof of the law MsgsUnlike, put together by a program of this seat's prover (wip/pack.py): its own texts. No condition. -/
import Derived.Test.YtncanijjnhkgbaaDoorA1
import Derived.Test.YtncanijjnhkgbaaDoorA2
set_option linter.unusedVariables false
set_option linter.unusedSimpArgs false
namespace Go.Proofs.YtncanijjnhkgbaaDoor.PMsgsUnlike
open Go.RowKit Go.Proofs.YtncanijjnhkgbaaDoorW.PrintWords Go.Proofs.YtncanijjnhkgbaaDoorW.PrintLast Go.Proofs.YtncanijjnhkgbaaDoorW.PrintMore
attribute [local go_sem] max2_int min2_int max_two min_two max_three min_three max_four min_four
set_option linter.unusedVariables false
set_option linter.unusedSimpArgs false
noncomputable def msgs_Kind.l0 : Nat → List Int → List Int → Int → Option (Int)
 | 0, _, _, _ => none
 | k + 1, x0, x3, x4 => if x4 ≤ 13 then ((msgs_shapeOf.f x4).bind fun bt322 => (if x3.length < 140737488355328 then (msgs_Kind.l0 k x0 (x3 ++ [bt322.1]) (wrap64 (x4 + 1))) else (none))) else (if 0 < (x0.length : Int) then ((slices_Index_byte_byte.f k x3 (rd x0 0)).bind fun t330 => (some (wrap64 (t330 + 1)))) else (none))
noncomputable def msgs_Kind.f (k : Nat) (l0 : List Int) : Option (Int) := if (l0.length : Int) = 0 then (some 0) else (msgs_Kind.l0 k l0 ([] : List Int) 1)
theorem msgs_Kind.mono_l : ∀ k, (∀ y0 y1 y2, LeO (msgs_Kind.l0 k y0 y1 y2) (msgs_Kind.l0 (k + 1) y0 y1 y2))
 | 0 => fun _ _ _ r h => by simp [msgs_Kind.l0] at h
 | k + 1 => by
  have ih0 := msgs_Kind.mono_l k
  ·intro y0 y1 y2
   unfold msgs_Kind.l0
   repeat' first
   | (with_reducible exact ih0 _ _ _)
   | (with_reducible exact slices_Index_byte_byte.mono _ _ _)
   | (with_reducible exact LeO.refl _)
   | (with_reducible exact LeO.none _)
   | (with_reducible refine LeO.ite ?_ ?_)
   | (with_reducible refine LeO.bind ?_ (fun _ => ?_))
   | exact ih0 _ _ _
   | exact slices_Index_byte_byte.mono _ _ _
   | exact LeO.none _
   | refine LeO.ite ?_ ?_
   | refine LeO.bind ?_ (fun _ => ?_)
theorem msgs_Kind.mono : ∀ a0 k, LeO (msgs_Kind.f k a0) (msgs_Kind.f (k + 1) a0) := by
 intro a0 k
 have ih0 := msgs_Kind.mono_l k
 unfold msgs_Kind.f
 repeat' first
   | (with_reducible exact ih0 _ _ _)
   | (with_reducible exact slices_Index_byte_byte.mono _ _ _)
   | (with_reducible exact LeO.refl _)
   | (with_reducible exact LeO.none _)
   | (with_reducible refine LeO.ite ?_ ?_)
   | (with_reducible refine LeO.bind ?_ (fun _ => ?_))
   | exact ih0 _ _ _
   | exact slices_Index_byte_byte.mono _ _ _
   | exact LeO.none _
   | refine LeO.ite ?_ ?_
   | refine LeO.bind ?_ (fun _ => ?_)
set_option maxHeartbeats 8000000 in
set_option maxRecDepth 100000 in
theorem msgs_Kind.calls (k : Nat) (A0 : Option Addr) (c0 : Nat) (l0 : List Int) (r : Int) (w : World) (hr0 : Kd.C (Kd.int .u8) w A0 l0.length l0) (hc0 : l0.length ≤ c0) (h : msgs_Kind.f k l0 = some r) :
  Calls Tryd.prog 7 #[.slice A0 l0.length c0] w fun e w' => e = .returned (.int .i64 r) ∧ Below w.heap.size w w' := by
 have hfi_ : ∀ (t_ : Int) (v_ : Value) (W_ : World), (Instr.field 41 (.agg #[.int .u8 t_, v_]) 0).run Tryd.prog W_ = .ok (.int .u8 t_) W_ := fun _ _ _ => by kernel_rfl
 have HR0 := Aside0.mk hr0
 have HC0 := Aside0.mk hc0
 clear hr0 hc0
 have HB := Aside0.mk (Below.refl w.heap.size w)
 have H : (if (l0.length : Int) = 0 then (some 0) else (msgs_Kind.l0 k l0 ([] : List Int) 1)) = some r := h
 clear h
 by_cases c2 : (l0.length : Int) = 0
 ·rw [if_pos c2] at H
  have c2b0 : ((l0.length : Int) == 0) = true := beq_iff_eq.mpr c2
  have c2b1 : ((l0.length : Int) != 0) = false := bne_eq_false_iff_eq.mpr c2
  clear c2
  obtain rfl := Option.some.inj H
  go_enter Tryd.func7, Tryd.ntmps7
  go_wp2
  go_ret
  exact ⟨by first | rfl | (simp [errW_none, errW_some] <;> rfl) | (simp [*, errW_none, errW_some] <;> rfl), by repeat (first | (with_reducible first | exact HB.out | apply below_alloc | apply pw_below_drewN | apply below_drew1) | exact HB.out)⟩
 ·rw [if_neg c2] at H
  have c2b0 : ((l0.length : Int) == 0) = false := beq_eq_false_iff_ne.mpr c2
  have c2b1 : ((l0.length : Int) != 0) = true := bne_iff_ne.mpr c2
  have c2b2 : ¬ (l0 = []) := fun h_ => c2 (by rw [h_]; rfl)
  have H' := Aside0.mk H
  clear H
  go_enter Tryd.func7, Tryd.ntmps7
  go_wp2
  go_loopg [3, 4] k (fun kq v3 v4 w' => ∃ (x3_1 : List Int) (x4_1 : Int), v4 = .int .i64 x4_1 ∧ Aside0 (msgs_Kind.l0 kq l0 x3_1 x4_1 = some r) ∧ Aside0 (kq ≤ k) ∧ Aside0 (Kd.R (Kd.int .u8) 5 w' w.heap.size (fun _ => True) v3 x3_1) ∧ Aside0 (Below w.heap.size w w'))
  case atStart => exact ⟨(([] : List Int)), (1), (by first | rfl | (simp; done) | (simp [*]; done)), H', ⟨Nat.le_refl _⟩, ⟨by first | exact Kd.R_nil _ _ _ _ _ | exact Kd.N_nil _ _ _ _ _ | exact Kd.V_nil _ _ _ _ _ | exact Kd.Q_nil _ _ _ _ _ | exact Kd.S_nil _ _ _ _ _⟩, ⟨by repeat (first | (with_reducible first | exact HB.out | apply below_alloc | apply pw_below_drewN | apply below_drew1) | exact HB.out)⟩⟩
  case round =>
   clear H'
   try clear c2
   try clear c2b0
   try clear c2b1
   try clear c2b2
   try clear p2
   obtain ⟨x3_1, x4_1, rfl, HA, HK1, HO_3, HB⟩ := hrel
   cases gk with
   | zero => exact absurd HA.out (by simp [msgs_Kind.l0])
   | succ k1 =>
    have H := HA.out
    clear HA
    simp only [msgs_Kind.l0] at H
    by_cases c3 : x4_1 ≤ 13
    ·rw [if_pos c3] at H
     have c3b0 : decide (x4_1 ≤ 13) = true := decide_eq_true c3
     clear c3
     replace H := Option.bind_eq_some_iff.mp H
     obtain ⟨⟨t322, t323⟩, A40, H⟩ := H
     replace H : (if x3_1.length < 140737488355328 then (msgs_Kind.l0 k1 l0 (x3_1 ++ [t322]) (wrap64 (x4_1 + 1))) else (none)) = some r := H
     have A4 := Aside0.mk A40
     clear A40
     by_cases c5 : x3_1.length < 140737488355328
     ·rw [if_pos c5] at H
      have LMc5 := Aside0.mk c5
      clear c5
      obtain ⟨y326, hy326⟩ : ∃ y_ : List Int, y_ = (x3_1 ++ [t322]) := ⟨_, rfl⟩
      replace H : (msgs_Kind.l0 k1 l0 y326 (wrap64 (x4_1 + 1))) = some r := by first | (rw [hy326]; with_reducible exact H) | (have H2_ := (Option.bind_some _ _).symm.trans H; rw [hy326]; with_reducible exact H2_) | (have H2_ := (Option.bind_some _ _).symm.trans H; with_reducible exact H2_) | with_reducible exact H | (rw [hy326]; exact H) | exact H
      have Ny326 := Aside0.mk hy326
      clear hy326
      have H' := Aside0.mk H
      clear H
      go_wp2_with (first | ((with_reducible refine gate_callee (f := 8) rfl ?_); refine goesL_ (some 14) rfl rfl Tryd.func8 (by kernel_rfl) rfl #[.int .i64 x4_1] rfl (by (try simp only [List.map_toArray, List.map_cons, List.map_nil]); first | done | rfl | (simp only [List.length_drop, List.length_take]; rfl)) ?_; (with_reducible refine (msgs_shapeOf.calls x4_1 t322 t323 _ A4.out).mono ?_); rintro e w6 ⟨v324, rfl, ho0, hb⟩; refine ⟨_, rfl, ?_⟩; have n0_ := Aside0.mk (Kd.R_below (by (with_reducible repeat (first | apply Kd.R_alloc | apply Kd.R_drewN | apply Kd.R_drew)); exact HO_3.out) hb); have n1_ := Aside0.mk (Kd.R_lower ho0 (below_size (by repeat (first | (with_reducible first | exact HB.out | apply below_alloc | apply pw_below_drewN | apply below_drew1) | exact HB.out)))); have n2_ := Aside0.mk (below_step (by repeat (first | (with_reducible first | exact HB.out | apply below_alloc | apply pw_below_drewN | apply below_drew1) | exact HB.out)) hb); clear HO_3; clear HB; have HO_3 := n0_; have HO325 := n1_; have HB := n2_; clear n0_ n1_ n2_; (try clear hb); (try clear hb2); (try clear hk); (try clear hi); (try clear ho0); obtain ⟨Ax_, cx_, ex_⟩ := Kd.R_slice HO325.out; subst ex_) | ((with_reducible refine gate_builtin (b := .append) (xs := #[.tmp 12, .tmp 16]) rfl ?_); at_builtin; refine Kd.R_append (Kd.int .u8) (w0 := w) w.heap.size rfl (.tmp 12) (.tmp 16) 25 5 (.int .u8 0) 1 rfl Tryd.underlying25 info5 rfl (by decide) (by omega) u3 x3_1 t322 [.int .u8 t322] (fun _ => True) (fun _ => False) rfl rfl ?aP (fun _ hk => hk.elim) ?aF ?aO ?aB ?aS ?aL ?_; (case aP => exact rfl); (case aB => exact (by repeat (first | (with_reducible first | exact HB.out | apply below_alloc | apply pw_below_drewN | apply below_drew1) | exact HB.out))); (case aF => exact (fun _ _ => trivial)); (case aO => exact (by (with_reducible repeat (first | apply Kd.R_alloc | apply Kd.R_drewN | apply Kd.R_drew)); exact HO_3.out)); (case aS => exact (below_size (by repeat (first | (with_reducible first | exact HB.out | apply below_alloc | apply pw_below_drewN | apply below_drew1) | exact HB.out)))); (case aL => have := LMc5.out; omega); intro v327 w7 ho hb hg hat; rw [← Ny326.out] at ho; have n0_ := Aside0.mk (Kd.R_over' (by (with_reducible repeat (first | apply Kd.R_alloc | apply Kd.R_drewN | apply Kd.R_drew)); exact HO325.out) (Kd.R_typed (by (with_reducible repeat (first | apply Kd.R_alloc | apply Kd.R_drewN | apply Kd.R_drew)); exact HO_3.out)) (by decide) hg); have n1_ := Aside0.mk (hb); have n2_ := Aside0.mk (ho); clear HO325; clear HB; clear HO_3; have HO325 := n0_; have HB := n1_; have HO328 := n2_; clear n0_ n1_ n2_; clear ho hb hg hat))
      go_roundg k1
      case measure => have := HK1.out; omega
      case rel => exact ⟨(y326), (wrap64 (x4_1 + 1)), (by first | rfl | (simp; done) | (simp [*]; done)), H', ⟨by have := HK1.out; omega⟩, ⟨by (with_reducible repeat (first | apply Kd.R_alloc | apply Kd.R_drewN | apply Kd.R_drew)); exact HO328.out⟩, ⟨by repeat (first | (with_reducible first | exact HB.out | apply below_alloc | apply pw_below_drewN | apply below_drew1) | exact HB.out)⟩⟩
     ·rw [if_neg c5] at H
      exact absurd H (by simp)
    ·rw [if_neg c3] at H
     have c3b0 : decide (x4_1 ≤ 13) = false := decide_eq_false c3
     clear c3
     by_cases c8 : 0 < (l0.length : Int)
     ·rw [if_pos c8] at H
      have c8b0 : decide (0 < (l0.length : Int)) = true := decide_eq_true c8
      have c8b1 : decide (0 < l0.length) = true := decide_eq_true (by omega)
      clear c8
      replace H := Option.bind_eq_some_iff.mp H
      obtain ⟨t330, A90, H⟩ := H
      replace H : (some (wrap64 (t330 + 1))) = some r := H
      have A9 := Aside0.mk A90
      clear A90
      obtain rfl := Option.some.inj H
      have p329 : 0 ≤ (0 : Int) := (by omega)
      have q329 : 0 < (l0.length : Int) := of_decide_eq_true (by first | (with_reducible assumption) | assumption)
      obtain ⟨ad329, e329, hx329_0⟩ := Kd.at_int HR0.out 0 p329 q329
      cases e329
      have qi329 : (0 < l0.length) = True := eq_true (by omega)
      (try rw [show ((0 : Int)).toNat = 0 from rfl] at hx329_0)
      (try rw [Addr.add_zero'] at hx329_0)
      replace hx329_0 := (HB.out.cell (World.block_lt_of_cell? w _ hx329_0)).trans hx329_0
      replace p329 := eq_true p329
      replace q329 := eq_true q329
      obtain ⟨Ao10, co10, eo10⟩ := Kd.R_slice HO_3.out
      subst eo10
      go_wp2_with (first | ((with_reducible refine gate_callee (f := 12) rfl ?_); refine goesL_ (some 22) rfl rfl Tryd.func12 (by kernel_rfl) rfl #[.slice Ao10 x3_1.length co10, .int .u8 (rd l0 0)] rfl (by (try simp only [List.map_toArray, List.map_cons, List.map_nil]); first | done | rfl | (simp only [List.length_drop, List.length_take]; rfl)) ?_; (with_reducible refine (slices_Index_byte_byte.calls k1 _ _ x3_1 (rd l0 0) t330 _ ?side1 ?side2 A9.out).mono ?_); (case side1 => repeat (first | exact (Kd.R_reads' HO_3.out).2.2 | (with_reducible refine Kd.C_alloc ?_ _) | (with_reducible refine Kd.C_drewN ?_ _) | (with_reducible refine Kd.C_drew ?_))); (case side2 => exact (Kd.R_reads' HO_3.out).2.1); rintro e w' ⟨rfl, ⟨nd, rfl⟩⟩; refine ⟨_, rfl, ?_⟩))
      go_ret
      exact ⟨by first | rfl | (simp [errW_none, errW_some] <;> rfl) | (simp [*, errW_none, errW_some] <;> rfl), by repeat (first | (with_reducible first | exact HB.out | apply below_alloc | apply pw_below_drewN | apply below_drew1) | exact HB.out)⟩
     ·rw [if_neg c8] at H
      exact absurd H (by simp)
mutual
noncomputable def warderref09_AlikePrinc.j0 : Nat → Bool → ByteArray → List ByteArray → ByteArray → List ByteArray → Option (Bool)
 | 0, _, _, _, _, _ => none
 | k + 1, x19, x344000, x344001, x345000, x345001 => if x19 = true then (some false) else (warderref09_AlikePrinc.l0 k 0 x344000 x344001 x345000 x345001)
noncomputable def warderref09_AlikePrinc.l0 : Nat → Int → ByteArray → List ByteArray → ByteArray → List ByteArray → Option (Bool)
 | 0, _, _, _, _, _ => none
 | k + 1, x5, x344000, x344001, x345000, x345001 => if x5 < (x344001.length : Int) then (if 0 ≤ x5 then (if x5 < (x345001.length : Int) then (if (rdOf ByteArray.empty x344001 x5).toList = (rdOf ByteArray.empty x345001 x5).toList then (warderref09_AlikePrinc.l0 k (wrap64 (x5 + 1)) x344000 x344001 x345000 x345001) else (some false)) else (none)) else (none)) else (some true)
end
noncomputable def warderref09_AlikePrinc.f (k : Nat) (a0_0 : ByteArray) (l0_1 : List ByteArray) (a1_0 : ByteArray) (l1_1 : List ByteArray) : Option (Bool) := if a0_0.toList = a1_0.toList then (warderref09_AlikePrinc.j0 k ((l0_1.length : Int) != (l1_1.length : Int)) a0_0 l0_1 a1_0 l1_1) else (warderref09_AlikePrinc.j0 k true a0_0 l0_1 a1_0 l1_1)
theorem warderref09_AlikePrinc.mono_l : ∀ k, (∀ y0 y1 y2 y3 y4, LeO (warderref09_AlikePrinc.j0 k y0 y1 y2 y3 y4) (warderref09_AlikePrinc.j0 (k + 1) y0 y1 y2 y3 y4)) ∧ (∀ y0 y1 y2 y3 y4, LeO (warderref09_AlikePrinc.l0 k y0 y1 y2 y3 y4) (warderref09_AlikePrinc.l0 (k + 1) y0 y1 y2 y3 y4))
 | 0 => ⟨fun _ _ _ _ _ r h => by simp [warderref09_AlikePrinc.j0] at h, fun _ _ _ _ _ r h => by simp [warderref09_AlikePrinc.l0] at h⟩
 | k + 1 => by
  obtain ⟨ih0, ih1⟩ := warderref09_AlikePrinc.mono_l k
  refine ⟨?_, ?_⟩
  ·intro y0 y1 y2 y3 y4
   unfold warderref09_AlikePrinc.j0
   repeat' first
   | (with_reducible exact ih0 _ _ _ _ _)
   | (with_reducible exact ih1 _ _ _ _ _)
   | (with_reducible exact LeO.refl _)
   | (with_reducible exact LeO.none _)
   | (with_reducible refine LeO.ite ?_ ?_)
   | (with_reducible refine LeO.bind ?_ (fun _ => ?_))
   | exact ih0 _ _ _ _ _
   | exact ih1 _ _ _ _ _
   | exact LeO.none _
   | refine LeO.ite ?_ ?_
   | refine LeO.bind ?_ (fun _ => ?_)
  ·intro y0 y1 y2 y3 y4
   unfold warderref09_AlikePrinc.l0
   repeat' first
   | (with_reducible exact ih0 _ _ _ _ _)
   | (with_reducible exact ih1 _ _ _ _ _)
   | (with_reducible exact LeO.refl _)
   | (with_reducible exact LeO.none _)
   | (with_reducible refine LeO.ite ?_ ?_)
   | (with_reducible refine LeO.bind ?_ (fun _ => ?_))
   | exact ih0 _ _ _ _ _
   | exact ih1 _ _ _ _ _
   | exact LeO.none _
   | refine LeO.ite ?_ ?_
   | refine LeO.bind ?_ (fun _ => ?_)
theorem warderref09_AlikePrinc.mono : ∀ a0 a1 a2 a3 k, LeO (warderref09_AlikePrinc.f k a0 a1 a2 a3) (warderref09_AlikePrinc.f (k + 1) a0 a1 a2 a3) := by
 intro a0 a1 a2 a3 k
 obtain ⟨ih0, ih1⟩ := warderref09_AlikePrinc.mono_l k
 unfold warderref09_AlikePrinc.f
 repeat' first
   | (with_reducible exact ih0 _ _ _ _ _)
   | (with_reducible exact ih1 _ _ _ _ _)
   | (with_reducible exact LeO.refl _)
   | (with_reducible exact LeO.none _)
   | (with_reducible refine LeO.ite ?_ ?_)
   | (with_reducible refine LeO.bind ?_ (fun _ => ?_))
   | exact ih0 _ _ _ _ _
   | exact ih1 _ _ _ _ _
   | exact LeO.none _
   | refine LeO.ite ?_ ?_
   | refine LeO.bind ?_ (fun _ => ?_)
set_option maxHeartbeats 8000000 in
set_option maxRecDepth 100000 in
theorem warderref09_AlikePrinc.calls (k : Nat) (a0_0 : ByteArray) (A0_1 : Option Addr) (c0_1 : Nat) (l0_1 : List ByteArray) (a1_0 : ByteArray) (A1_1 : Option Addr) (c1_1 : Nat) (l1_1 : List ByteArray) (r : Bool) (w : World) (hr0_1 : Kd.C Kd.string w A0_1 l0_1.length l0_1) (hc0_1 : l0_1.length ≤ c0_1) (hr1_1 : Kd.C Kd.string w A1_1 l1_1.length l1_1) (hc1_1 : l1_1.length ≤ c1_1) (h : warderref09_AlikePrinc.f k a0_0 l0_1 a1_0 l1_1 = some r) :
  Calls Tryd.prog 20 #[.agg #[.string a0_0, .slice A0_1 l0_1.length c0_1], .agg #[.string a1_0, .slice A1_1 l1_1.length c1_1]] w fun e w' => e = .returned (.bool r) ∧ Below w.heap.size w w' := by
 have hu33 := Tryd.underlying33
 have HR0_1 := Aside0.mk hr0_1
 have HC0_1 := Aside0.mk hc0_1
 clear hr0_1 hc0_1
 have HR1_1 := Aside0.mk hr1_1
 have HC1_1 := Aside0.mk hc1_1
 clear hr1_1 hc1_1
 have HB := Aside0.mk (Below.refl w.heap.size w)
 have H : (if a0_0.toList = a1_0.toList then (warderref09_AlikePrinc.j0 k ((l0_1.length : Int) != (l1_1.length : Int)) a0_0 l0_1 a1_0 l1_1) else (warderref09_AlikePrinc.j0 k true a0_0 l0_1 a1_0 l1_1)) = some r := h
 clear h
 have HC3 := Aside0.mk H
 clear H
 go_enter Tryd.func20, Tryd.ntmps20
 go_upto_region 1 with (first | ((with_reducible refine gate_dst (N := 2) rfl ?_); (try (refine gate_guard (by rfl) ?_; dsimp only)); refine box_event ?hg (N := 2) ?hd (cs := #[.string a0_0, .slice A0_1 l0_1.length c0_1]) (t := 33) ?hr ?_; (case hd => rfl); (case hg => rfl); (case hr => first | (go_simp; done) | (go_simp; rfl)); intro gb343 hg w4 hbox hb; have n0_ := Aside0.mk (below_step (by repeat (first | (with_reducible first | exact HB.out | apply below_alloc | apply pw_below_drewN | apply below_drew1) | exact HB.out)) hb); have n1_ := Aside0.mk (hbox); have n2_ := Aside0.mk ((by rw [hg]; exact (below_size (by repeat (first | (with_reducible first | exact HB.out | apply below_alloc | apply pw_below_drewN | apply below_drew1) | exact HB.out))) : w.heap.size ≤ gb343)); have n3_ := Aside0.mk ((by rw [hg]; exact (below_size (by repeat (first | (with_reducible first | exact HB.out | apply below_alloc | apply pw_below_drewN | apply below_drew1) | exact HB.out))) : w.heap.size ≤ gb343)); clear HB; have HB := n0_; have BK343 := n1_; have GW343 := n2_; have GE343 := n3_; clear n0_ n1_ n2_ n3_; clear hb hbox hg) | ((with_reducible refine gate_dst (N := 3) rfl ?_); (try (refine gate_guard (by rfl) ?_; dsimp only)); refine box_event ?hg (N := 3) ?hd (cs := #[.string a1_0, .slice A1_1 l1_1.length c1_1]) (t := 33) ?hr ?_; (case hd => rfl); (case hg => rfl); (case hr => first | (go_simp; done) | (go_simp; rfl)); intro gb344 hg w5 hbox hb; have n0_ := Aside0.mk (blk_below (g := gb343) (o := .cells #[.string a0_0, .slice A0_1 l0_1.length c0_1] 33 (0, 0)) (by (with_reducible repeat (first | refine blk_drewN ?_ _ | refine blk_drew ?_ | refine blk_alloc ?_ _)); exact BK343.out) hb); have n1_ := Aside0.mk (below_step (by repeat (first | (with_reducible first | exact HB.out | apply below_alloc | apply pw_below_drewN | apply below_drew1 | refine below_set ?_ GE343.out) | exact HB.out)) hb); have n2_ := Aside0.mk (hbox); have n3_ := Aside0.mk ((by rw [hg]; exact (below_size (by repeat (first | (with_reducible first | exact HB.out | apply below_alloc | apply pw_below_drewN | apply below_drew1 | refine below_set ?_ GE343.out) | exact HB.out))) : w.heap.size ≤ gb344)); have n4_ := Aside0.mk ((by rw [hg]; exact (below_size (by repeat (first | (with_reducible first | exact HB.out | apply below_alloc | apply pw_below_drewN | apply below_drew1 | refine below_set ?_ GE343.out) | exact HB.out))) : w.heap.size ≤ gb344)); have n5_ := Aside0.mk ((by rw [hg]; exact Nat.ne_of_lt (blk_lt (g := gb343) (o := .cells #[.string a0_0, .slice A0_1 l0_1.length c0_1] 33 (0, 0)) (by (with_reducible repeat (first | refine blk_drewN ?_ _ | refine blk_drew ?_ | refine blk_alloc ?_ _)); exact BK343.out)) : gb343 ≠ gb344)); have n6_ := Aside0.mk ((by rw [hg]; exact Nat.ne_of_gt (blk_lt (g := gb343) (o := .cells #[.string a0_0, .slice A0_1 l0_1.length c0_1] 33 (0, 0)) (by (with_reducible repeat (first | refine blk_drewN ?_ _ | refine blk_drew ?_ | refine blk_alloc ?_ _)); exact BK343.out)) : gb344 ≠ gb343)); clear BK343; clear HB; have BK343 := n0_; have HB := n1_; have BK344 := n2_; have GW344 := n3_; have GE344 := n4_; have NB343_344 := n5_; have NB344_343 := n6_; clear n0_ n1_ n2_ n3_ n4_ n5_ n6_; clear hb hbox hg))
 repeat (go_quiet (first | ((with_reducible refine gate_dst (N := 2) rfl ?_); (try (refine gate_guard (by rfl) ?_; dsimp only)); refine box_event ?hg (N := 2) ?hd (cs := #[.string a0_0, .slice A0_1 l0_1.length c0_1]) (t := 33) ?hr ?_; (case hd => rfl); (case hg => rfl); (case hr => first | (go_simp; done) | (go_simp; rfl)); intro gb343 hg w4 hbox hb; have n0_ := Aside0.mk (below_step (by repeat (first | (with_reducible first | exact HB.out | apply below_alloc | apply pw_below_drewN | apply below_drew1) | exact HB.out)) hb); have n1_ := Aside0.mk (hbox); have n2_ := Aside0.mk ((by rw [hg]; exact (below_size (by repeat (first | (with_reducible first | exact HB.out | apply below_alloc | apply pw_below_drewN | apply below_drew1) | exact HB.out))) : w.heap.size ≤ gb343)); have n3_ := Aside0.mk ((by rw [hg]; exact (below_size (by repeat (first | (with_reducible first | exact HB.out | apply below_alloc | apply pw_below_drewN | apply below_drew1) | exact HB.out))) : w.heap.size ≤ gb343)); clear HB; have HB := n0_; have BK343 := n1_; have GW343 := n2_; have GE343 := n3_; clear n0_ n1_ n2_ n3_; clear hb hbox hg) | ((with_reducible refine gate_dst (N := 3) rfl ?_); (try (refine gate_guard (by rfl) ?_; dsimp only)); refine box_event ?hg (N := 3) ?hd (cs := #[.string a1_0, .slice A1_1 l1_1.length c1_1]) (t := 33) ?hr ?_; (case hd => rfl); (case hg => rfl); (case hr => first | (go_simp; done) | (go_simp; rfl)); intro gb344 hg w5 hbox hb; have n0_ := Aside0.mk (blk_below (g := gb343) (o := .cells #[.string a0_0, .slice A0_1 l0_1.length c0_1] 33 (0, 0)) (by (with_reducible repeat (first | refine blk_drewN ?_ _ | refine blk_drew ?_ | refine blk_alloc ?_ _)); exact BK343.out) hb); have n1_ := Aside0.mk (below_step (by repeat (first | (with_reducible first | exact HB.out | apply below_alloc | apply pw_below_drewN | apply below_drew1 | refine below_set ?_ GE343.out) | exact HB.out)) hb); have n2_ := Aside0.mk (hbox); have n3_ := Aside0.mk ((by rw [hg]; exact (below_size (by repeat (first | (with_reducible first | exact HB.out | apply below_alloc | apply pw_below_drewN | apply below_drew1 | refine below_set ?_ GE343.out) | exact HB.out))) : w.heap.size ≤ gb344)); have n4_ := Aside0.mk ((by rw [hg]; exact (below_size (by repeat (first | (with_reducible first | exact HB.out | apply below_alloc | apply pw_below_drewN | apply below_drew1 | refine below_set ?_ GE343.out) | exact HB.out))) : w.heap.size ≤ gb344)); have n5_ := Aside0.mk ((by rw [hg]; exact Nat.ne_of_lt (blk_lt (g := gb343) (o := .cells #[.string a0_0, .slice A0_1 l0_1.length c0_1] 33 (0, 0)) (by (with_reducible repeat (first | refine blk_drewN ?_ _ | refine blk_drew ?_ | refine blk_alloc ?_ _)); exact BK343.out)) : gb343 ≠ gb344)); have n6_ := Aside0.mk ((by rw [hg]; exact Nat.ne_of_gt (blk_lt (g := gb343) (o := .cells #[.string a0_0, .slice A0_1 l0_1.length c0_1] 33 (0, 0)) (by (with_reducible repeat (first | refine blk_drewN ?_ _ | refine blk_drew ?_ | refine blk_alloc ?_ _)); exact BK343.out)) : gb344 ≠ gb343)); clear BK343; clear HB; have BK343 := n0_; have HB := n1_; have BK344 := n2_; have GW344 := n3_; have GE344 := n4_; have NB343_344 := n5_; have NB344_343 := n6_; clear n0_ n1_ n2_ n3_ n4_ n5_ n6_; clear hb hbox hg)); go_upto_region 1 with (first | ((with_reducible refine gate_dst (N := 2) rfl ?_); (try (refine gate_guard (by rfl) ?_; dsimp only)); refine box_event ?hg (N := 2) ?hd (cs := #[.string a0_0, .slice A0_1 l0_1.length c0_1]) (t := 33) ?hr ?_; (case hd => rfl); (case hg => rfl); (case hr => first | (go_simp; done) | (go_simp; rfl)); intro gb343 hg w4 hbox hb; have n0_ := Aside0.mk (below_step (by repeat (first | (with_reducible first | exact HB.out | apply below_alloc | apply pw_below_drewN | apply below_drew1) | exact HB.out)) hb); have n1_ := Aside0.mk (hbox); have n2_ := Aside0.mk ((by rw [hg]; exact (below_size (by repeat (first | (with_reducible first | exact HB.out | apply below_alloc | apply pw_below_drewN | apply below_drew1) | exact HB.out))) : w.heap.size ≤ gb343)); have n3_ := Aside0.mk ((by rw [hg]; exact (below_size (by repeat (first | (with_reducible first | exact HB.out | apply below_alloc | apply pw_below_drewN | apply below_drew1) | exact HB.out))) : w.heap.size ≤ gb343)); clear HB; have HB := n0_; have BK343 := n1_; have GW343 := n2_; have GE343 := n3_; clear n0_ n1_ n2_ n3_; clear hb hbox hg) | ((with_reducible refine gate_dst (N := 3) rfl ?_); (try (refine gate_guard (by rfl) ?_; dsimp only)); refine box_event ?hg (N := 3) ?hd (cs := #[.string a1_0, .slice A1_1 l1_1.length c1_1]) (t := 33) ?hr ?_; (case hd => rfl); (case hg => rfl); (case hr => first | (go_simp; done) | (go_simp; rfl)); intro gb344 hg w5 hbox hb; have n0_ := Aside0.mk (blk_below (g := gb343) (o := .cells #[.string a0_0, .slice A0_1 l0_1.length c0_1] 33 (0, 0)) (by (with_reducible repeat (first | refine blk_drewN ?_ _ | refine blk_drew ?_ | refine blk_alloc ?_ _)); exact BK343.out) hb); have n1_ := Aside0.mk (below_step (by repeat (first | (with_reducible first | exact HB.out | apply below_alloc | apply pw_below_drewN | apply below_drew1 | refine below_set ?_ GE343.out) | exact HB.out)) hb); have n2_ := Aside0.mk (hbox); have n3_ := Aside0.mk ((by rw [hg]; exact (below_size (by repeat (first | (with_reducible first | exact HB.out | apply below_alloc | apply pw_below_drewN | apply below_drew1 | refine below_set ?_ GE343.out) | exact HB.out))) : w.heap.size ≤ gb344)); have n4_ := Aside0.mk ((by rw [hg]; exact (below_size (by repeat (first | (with_reducible first | exact HB.out | apply below_alloc | apply pw_below_drewN | apply below_drew1 | refine below_set ?_ GE343.out) | exact HB.out))) : w.heap.size ≤ gb344)); have n5_ := Aside0.mk ((by rw [hg]; exact Nat.ne_of_lt (blk_lt (g := gb343) (o := .cells #[.string a0_0, .slice A0_1 l0_1.length c0_1] 33 (0, 0)) (by (with_reducible repeat (first | refine blk_drewN ?_ _ | refine blk_drew ?_ | refine blk_alloc ?_ _)); exact BK343.out)) : gb343 ≠ gb344)); have n6_ := Aside0.mk ((by rw [hg]; exact Nat.ne_of_gt (blk_lt (g := gb343) (o := .cells #[.string a0_0, .slice A0_1 l0_1.length c0_1] 33 (0, 0)) (by (with_reducible repeat (first | refine blk_drewN ?_ _ | refine blk_drew ?_ | refine blk_alloc ?_ _)); exact BK343.out)) : gb344 ≠ gb343)); clear BK343; clear HB; have BK343 := n0_; have HB := n1_; have BK344 := n2_; have GW344 := n3_; have GE344 := n4_; have NB343_344 := n5_; have NB344_343 := n6_; clear n0_ n1_ n2_ n3_ n4_ n5_ n6_; clear hb hbox hg)))
 (try simp only [Act.put, List.setIfInBounds_toArray, List.set_cons_zero, List.set_cons_succ])
 go_cut [19] (fun v19 wc => ∃ (kq : Nat) (x19_2 : Bool), v19 = .bool x19_2 ∧ Aside0 (warderref09_AlikePrinc.j0 kq x19_2 a0_0 l0_1 a1_0 l1_1 = some r) ∧ Aside0 (kq ≤ k) ∧ Aside0 (wc.heap[gb343]? = some (.cells #[.string a0_0, (.slice A0_1 l0_1.length c0_1)] 33 (0, 0))) ∧ Aside0 (wc.heap[gb344]? = some (.cells #[.string a1_0, (.slice A1_1 l1_1.length c1_1)] 33 (0, 0))) ∧ Aside0 (Below w.heap.size w wc))
 case first =>
  have H := HC3.out
  clear HC3
  by_cases c6 : a0_0.toList = a1_0.toList
  ·rw [if_pos c6] at H
   have c6b0 : (a0_0.toList == a1_0.toList) = true := beq_iff_eq.mpr c6
   have c6b1 : (a0_0.toList != a1_0.toList) = false := bne_eq_false_iff_eq.mpr c6
   clear c6
   (first | rw [c6b0] | (simp only [i64_w, i32_w]; rw [c6b0]) | skip)
   have H' := Aside0.mk H
   clear H
   have hnb7 := NB343_344.out
   have hnc7 := NB344_343.out
   have hcz8_0 : w5.cell? ⟨gb343, 0, none⟩ = some (.string a0_0) := (blk_cell BK343.out 0).trans rfl
   have hcz8_1 : w5.cell? ⟨gb343, 1, none⟩ = some (.slice A0_1 l0_1.length c0_1) := (blk_cell BK343.out 1).trans rfl
   have hfz8_0 := blk_frozen BK343.out 0
   have hfz8_1 := blk_frozen BK343.out 1
   have hcz9_0 : w5.cell? ⟨gb344, 0, none⟩ = some (.string a1_0) := (blk_cell BK344.out 0).trans rfl
   have hcz9_1 : w5.cell? ⟨gb344, 1, none⟩ = some (.slice A1_1 l1_1.length c1_1) := (blk_cell BK344.out 1).trans rfl
   have hfz9_0 := blk_frozen BK344.out 0
   have hfz9_1 := blk_frozen BK344.out 1
   go_wp2
   repeat (go_quiet (fail); try go_wp2)
   go_meet
   case rel => exact ⟨_, (((l0_1.length : Int) != (l1_1.length : Int))), (by first | rfl | (simp; done) | (simp [*]; done)), H', ⟨by first | omega | exact Nat.le_refl _⟩, ⟨by (with_reducible repeat (first | refine blk_drewN ?_ _ | refine blk_drew ?_ | refine blk_alloc ?_ _)); exact BK343.out⟩, ⟨by (with_reducible repeat (first | refine blk_drewN ?_ _ | refine blk_drew ?_ | refine blk_alloc ?_ _)); exact BK344.out⟩, ⟨by repeat (first | (with_reducible first | exact HB.out | apply below_alloc | apply pw_below_drewN | apply below_drew1 | refine below_set ?_ GE343.out | refine below_set ?_ GE344.out) | exact HB.out)⟩⟩
  ·rw [if_neg c6] at H
   have c6b0 : (a0_0.toList == a1_0.toList) = false := beq_eq_false_iff_ne.mpr c6
   have c6b1 : (a0_0.toList != a1_0.toList) = true := bne_iff_ne.mpr c6
   (first | rw [c6b0] | (simp only [i64_w, i32_w]; rw [c6b0]) | skip)
   have H' := Aside0.mk H
   clear H
   have hnb10 := NB343_344.out
   have hnc10 := NB344_343.out
   have hcz11_0 : w5.cell? ⟨gb343, 0, none⟩ = some (.string a0_0) := (blk_cell BK343.out 0).trans rfl
   have hcz11_1 : w5.cell? ⟨gb343, 1, none⟩ = some (.slice A0_1 l0_1.length c0_1) := (blk_cell BK343.out 1).trans rfl
   have hfz11_0 := blk_frozen BK343.out 0
   have hfz11_1 := blk_frozen BK343.out 1
   have hcz12_0 : w5.cell? ⟨gb344, 0, none⟩ = some (.string a1_0) := (blk_cell BK344.out 0).trans rfl
   have hcz12_1 : w5.cell? ⟨gb344, 1, none⟩ = some (.slice A1_1 l1_1.length c1_1) := (blk_cell BK344.out 1).trans rfl
   have hfz12_0 := blk_frozen BK344.out 0
   have hfz12_1 := blk_frozen BK344.out 1
   go_wp2
   repeat (go_quiet (fail); try go_wp2)
   go_meet
   case rel => exact ⟨_, (true), (by first | rfl | (simp; done) | (simp [*]; done)), H', ⟨by first | omega | exact Nat.le_refl _⟩, ⟨by (with_reducible repeat (first | refine blk_drewN ?_ _ | refine blk_drew ?_ | refine blk_alloc ?_ _)); exact BK343.out⟩, ⟨by (with_reducible repeat (first | refine blk_drewN ?_ _ | refine blk_drew ?_ | refine blk_alloc ?_ _)); exact BK344.out⟩, ⟨by repeat (first | (with_reducible first | exact HB.out | apply below_alloc | apply pw_below_drewN | apply below_drew1 | refine below_set ?_ GE343.out | refine below_set ?_ GE344.out) | exact HB.out)⟩⟩
 case rest =>
  clear HC3
  try clear c1
  try clear c2
  try clear p2
  try clear c6
  try clear c6b0
  try clear c6b1
  try clear c7
  try clear c10
  try clear hcz11_0
  try clear hcz11_1
  try clear hcz12_0
  try clear hcz12_1
  try clear hcz8_0
  try clear hcz8_1
  try clear hcz9_0
  try clear hcz9_1
  try clear hfz11_0
  try clear hfz11_1
  try clear hfz12_0
  try clear hfz12_1
  try clear hfz8_0
  try clear hfz8_1
  try clear hfz9_0
  try clear hfz9_1
  obtain ⟨kq, x19_2, rfl, HA, HJ2, BK343, BK344, HB⟩ := hcut
  cases kq with
  | zero => exact absurd HA.out (by simp [warderref09_AlikePrinc.j0])
  | succ kj2 =>
   have H := HA.out
   clear HA
   simp only [warderref09_AlikePrinc.j0] at H
   by_cases c13 : x19_2 = true
   ·subst c13
    have H1 : (some false) = some r := by rw [if_pos rfl] at H; exact H
    clear H
    have H := H1
    clear H1
    obtain rfl := Option.some.inj H
    go_wp2
    repeat (go_quiet (fail); try go_wp2)
    go_ret
    exact ⟨by first | rfl | (simp [errW_none, errW_some] <;> rfl) | (simp [*, errW_none, errW_some] <;> rfl), by repeat (first | (with_reducible first | exact HB.out | apply below_alloc | apply pw_below_drewN | apply below_drew1 | refine below_set ?_ GE343.out | refine below_set ?_ GE344.out) | exact HB.out)⟩
   ·replace c13 := Bool.eq_false_iff.mpr c13
    subst c13
    have H1 : (warderref09_AlikePrinc.l0 kj2 0 a0_0 l0_1 a1_0 l1_1) = some r := by rw [if_neg (show ¬ (false = true) by decide)] at H; exact H
    clear H
    have H := H1
    clear H1
    have H' := Aside0.mk H
    clear H
    go_wp2
    repeat (go_quiet (fail); try go_wp2)
    go_loopg [5] kj2 (fun kq v5 w' => ∃ (x5_2 : Int), v5 = .int .i64 x5_2 ∧ Aside0 (warderref09_AlikePrinc.l0 kq x5_2 a0_0 l0_1 a1_0 l1_1 = some r) ∧ Aside0 (kq ≤ kj2) ∧ Aside0 (w'.heap[gb343]? = some (.cells #[.string a0_0, (.slice A0_1 l0_1.length c0_1)] 33 (0, 0))) ∧ Aside0 (w'.heap[gb344]? = some (.cells #[.string a1_0, (.slice A1_1 l1_1.length c1_1)] 33 (0, 0))) ∧ Aside0 (Below w.heap.size w w'))
    case atStart => exact ⟨(0), (by first | rfl | (simp; done) | (simp [*]; done)), H', ⟨Nat.le_refl _⟩, ⟨by (with_reducible repeat (first | refine blk_drewN ?_ _ | refine blk_drew ?_ | refine blk_alloc ?_ _)); exact BK343.out⟩, ⟨by (with_reducible repeat (first | refine blk_drewN ?_ _ | refine blk_drew ?_ | refine blk_alloc ?_ _)); exact BK344.out⟩, ⟨by repeat (first | (with_reducible first | exact HB.out | apply below_alloc | apply pw_below_drewN | apply below_drew1 | refine below_set ?_ GE343.out | refine below_set ?_ GE344.out) | exact HB.out)⟩⟩
    case round =>
     clear H'
     try clear c1
     try clear c2
     try clear p2
     try clear c6
     try clear c6b0
     try clear c6b1
     try clear c7
     try clear c10
     try clear c13
     try clear hcz11_0
     try clear hcz11_1
     try clear hcz12_0
     try clear hcz12_1
     try clear hcz8_0
     try clear hcz8_1
     try clear hcz9_0
     try clear hcz9_1
     try clear hfz11_0
     try clear hfz11_1
     try clear hfz12_0
     try clear hfz12_1
     try clear hfz8_0
     try clear hfz8_1
     try clear hfz9_0
     try clear hfz9_1
     try clear p2
     obtain ⟨x5_2, rfl, HA, HK2, BK343, BK344, HB⟩ := hrel
     cases gk with
     | zero => exact absurd HA.out (by simp [warderref09_AlikePrinc.l0])
     | succ k2 =>
      have H := HA.out
      clear HA
      simp only [warderref09_AlikePrinc.l0] at H
      by_cases c14 : x5_2 < (l0_1.length : Int)
      ·rw [if_pos c14] at H
       have c14b0 : decide (x5_2 < (l0_1.length : Int)) = true := decide_eq_true c14
       clear c14
       by_cases c15 : 0 ≤ x5_2
       ·rw [if_pos c15] at H
        have c15b0 : decide (0 ≤ x5_2) = true := decide_eq_true c15
        clear c15
        by_cases c16 : x5_2 < (l1_1.length : Int)
        ·rw [if_pos c16] at H
         have c16b0 : decide (x5_2 < (l1_1.length : Int)) = true := decide_eq_true c16
         clear c16
         by_cases c17 : (rdOf ByteArray.empty l0_1 x5_2).toList = (rdOf ByteArray.empty l1_1 x5_2).toList
         ·rw [if_pos c17] at H
          have c17b0 : ((rdOf ByteArray.empty l0_1 x5_2).toList == (rdOf ByteArray.empty l1_1 x5_2).toList) = true := beq_iff_eq.mpr c17
          have c17b1 : ((rdOf ByteArray.empty l0_1 x5_2).toList != (rdOf ByteArray.empty l1_1 x5_2).toList) = false := bne_eq_false_iff_eq.mpr c17
          clear c17
          have H' := Aside0.mk H
          clear H
          have hnb18 := NB343_344.out
          have hnc18 := NB344_343.out
          have hcz19_0 : wr.cell? ⟨gb343, 0, none⟩ = some (.string a0_0) := (blk_cell BK343.out 0).trans rfl
          have hcz19_1 : wr.cell? ⟨gb343, 1, none⟩ = some (.slice A0_1 l0_1.length c0_1) := (blk_cell BK343.out 1).trans rfl
          have hfz19_0 := blk_frozen BK343.out 0
          have hfz19_1 := blk_frozen BK343.out 1
          have p345 : 0 ≤ (x5_2 : Int) := of_decide_eq_true (by first | (with_reducible assumption) | assumption)
          have q345 : x5_2 < (l0_1.length : Int) := of_decide_eq_true (by first | (with_reducible assumption) | assumption)
          obtain ⟨ad345, e345, hx345_0⟩ := Kd.at_string HR0_1.out x5_2 p345 q345
          cases e345
          replace hx345_0 := (HB.out.cell (World.block_lt_of_cell? w _ hx345_0)).trans hx345_0
          replace p345 := eq_true p345
          replace q345 := eq_true q345
          have hcz20_0 : wr.cell? ⟨gb344, 0, none⟩ = some (.string a1_0) := (blk_cell BK344.out 0).trans rfl
          have hcz20_1 : wr.cell? ⟨gb344, 1, none⟩ = some (.slice A1_1 l1_1.length c1_1) := (blk_cell BK344.out 1).trans rfl
          have hfz20_0 := blk_frozen BK344.out 0
          have hfz20_1 := blk_frozen BK344.out 1
          have p346 : 0 ≤ (x5_2 : Int) := of_decide_eq_true (by first | (with_reducible assumption) | assumption)
          have q346 : x5_2 < (l1_1.length : Int) := of_decide_eq_true (by first | (with_reducible assumption) | assumption)
          obtain ⟨ad346, e346, hx346_0⟩ := Kd.at_string HR1_1.out x5_2 p346 q346
          cases e346
          replace hx346_0 := (HB.out.cell (World.block_lt_of_cell? w _ hx346_0)).trans hx346_0
          replace p346 := eq_true p346
          replace q346 := eq_true q346
          go_wp2
          repeat (go_quiet (fail); try go_wp2)
          go_roundg k2
          case measure => have := HJ2.out; have := HK2.out; omega
          case rel => exact ⟨(wrap64 (x5_2 + 1)), (by first | rfl | (simp; done) | (simp [*]; done)), H', ⟨by have := HJ2.out; have := HK2.out; omega⟩, ⟨by (with_reducible repeat (first | refine blk_drewN ?_ _ | refine blk_drew ?_ | refine blk_alloc ?_ _)); exact BK343.out⟩, ⟨by (with_reducible repeat (first | refine blk_drewN ?_ _ | refine blk_drew ?_ | refine blk_alloc ?_ _)); exact BK344.out⟩, ⟨by repeat (first | (with_reducible first | exact HB.out | apply below_alloc | apply pw_below_drewN | apply below_drew1 | refine below_set ?_ GE343.out | refine below_set ?_ GE344.out) | exact HB.out)⟩⟩
         ·rw [if_neg c17] at H
          have c17b0 : ((rdOf ByteArray.empty l0_1 x5_2).toList == (rdOf ByteArray.empty l1_1 x5_2).toList) = false := beq_eq_false_iff_ne.mpr c17
          have c17b1 : ((rdOf ByteArray.empty l0_1 x5_2).toList != (rdOf ByteArray.empty l1_1 x5_2).toList) = true := bne_iff_ne.mpr c17
          obtain rfl := Option.some.inj H
          have hnb21 := NB343_344.out
          have hnc21 := NB344_343.out
          have hcz22_0 : wr.cell? ⟨gb343, 0, none⟩ = some (.string a0_0) := (blk_cell BK343.out 0).trans rfl
          have hcz22_1 : wr.cell? ⟨gb343, 1, none⟩ = some (.slice A0_1 l0_1.length c0_1) := (blk_cell BK343.out 1).trans rfl
          have hfz22_0 := blk_frozen BK343.out 0
          have hfz22_1 := blk_frozen BK343.out 1
          have p345 : 0 ≤ (x5_2 : Int) := of_decide_eq_true (by first | (with_reducible assumption) | assumption)
          have q345 : x5_2 < (l0_1.length : Int) := of_decide_eq_true (by first | (with_reducible assumption) | assumption)
          obtain ⟨ad345, e345, hx345_0⟩ := Kd.at_string HR0_1.out x5_2 p345 q345
          cases e345
          replace hx345_0 := (HB.out.cell (World.block_lt_of_cell? w _ hx345_0)).trans hx345_0
          replace p345 := eq_true p345
          replace q345 := eq_true q345
          have hcz23_0 : wr.cell? ⟨gb344, 0, none⟩ = some (.string a1_0) := (blk_cell BK344.out 0).trans rfl
          have hcz23_1 : wr.cell? ⟨gb344, 1, none⟩ = some (.slice A1_1 l1_1.length c1_1) := (blk_cell BK344.out 1).trans rfl
          have hfz23_0 := blk_frozen BK344.out 0
          have hfz23_1 := blk_frozen BK344.out 1
          have p346 : 0 ≤ (x5_2 : Int) := of_decide_eq_true (by first | (with_reducible assumption) | assumption)
          have q346 : x5_2 < (l1_1.length : Int) := of_decide_eq_true (by first | (with_reducible assumption) | assumption)
          obtain ⟨ad346, e346, hx346_0⟩ := Kd.at_string HR1_1.out x5_2 p346 q346
          cases e346
          replace hx346_0 := (HB.out.cell (World.block_lt_of_cell? w _ hx346_0)).trans hx346_0
          replace p346 := eq_true p346
          replace q346 := eq_true q346
          go_wp2
          repeat (go_quiet (fail); try go_wp2)
          go_ret
          exact ⟨by first | rfl | (simp [errW_none, errW_some] <;> rfl) | (simp [*, errW_none, errW_some] <;> rfl), by repeat (first | (with_reducible first | exact HB.out | apply below_alloc | apply pw_below_drewN | apply below_drew1 | refine below_set ?_ GE343.out | refine below_set ?_ GE344.out) | exact HB.out)⟩
        ·rw [if_neg c16] at H
         exact absurd H (by simp)
       ·rw [if_neg c15] at H
        exact absurd H (by simp)
      ·rw [if_neg c14] at H
       have c14b0 : decide (x5_2 < (l0_1.length : Int)) = false := decide_eq_false c14
       clear c14
       obtain rfl := Option.some.inj H
       have hnb24 := NB343_344.out
       have hnc24 := NB344_343.out
       have hcz25_0 : wr.cell? ⟨gb343, 0, none⟩ = some (.string a0_0) := (blk_cell BK343.out 0).trans rfl
       have hcz25_1 : wr.cell? ⟨gb343, 1, none⟩ = some (.slice A0_1 l0_1.length c0_1) := (blk_cell BK343.out 1).trans rfl
       have hfz25_0 := blk_frozen BK343.out 0
       have hfz25_1 := blk_frozen BK343.out 1
       go_wp2
       repeat (go_quiet (fail); try go_wp2)
       go_ret
       exact ⟨by first | rfl | (simp [errW_none, errW_some] <;> rfl) | (simp [*, errW_none, errW_some] <;> rfl), by repeat (first | (with_reducible first | exact HB.out | apply below_alloc | apply pw_below_drewN | apply below_drew1 | refine below_set ?_ GE343.out | refine below_set ?_ GE344.out) | exact HB.out)⟩
noncomputable def warderref17_Same.f (k : Nat) (a0_0 : ByteArray) (l0_1 : List ByteArray) (a0_2 : Int) (a1_0 : ByteArray) (l1_1 : List ByteArray) (a1_2 : Int) : Option (Bool) := if a0_2 = a1_2 then ((warderref09_AlikePrinc.f k a0_0 l0_1 a1_0 l1_1).bind fun t349 => (some t349)) else (some false)
theorem warderref17_Same.mono : ∀ a0 a1 a2 a3 a4 a5 k, LeO (warderref17_Same.f k a0 a1 a2 a3 a4 a5) (warderref17_Same.f (k + 1) a0 a1 a2 a3 a4 a5) := by
 intro a0 a1 a2 a3 a4 a5 k
 unfold warderref17_Same.f
 repeat' first
   | (with_reducible exact warderref09_AlikePrinc.mono _ _ _ _ _)
   | (with_reducible exact LeO.refl _)
   | (with_reducible exact LeO.none _)
   | (with_reducible refine LeO.ite ?_ ?_)
   | (with_reducible refine LeO.bind ?_ (fun _ => ?_))
   | exact warderref09_AlikePrinc.mono _ _ _ _ _
   | exact LeO.none _
   | refine LeO.ite ?_ ?_
   | refine LeO.bind ?_ (fun _ => ?_)
set_option maxHeartbeats 8000000 in
set_option maxRecDepth 100000 in
theorem warderref17_Same.calls (k : Nat) (a0_0 : ByteArray) (A0_1 : Option Addr) (c0_1 : Nat) (l0_1 : List ByteArray) (a0_2 : Int) (a1_0 : ByteArray) (A1_1 : Option Addr) (c1_1 : Nat) (l1_1 : List ByteArray) (a1_2 : Int) (r : Bool) (w : World) (hr0_1 : Kd.C Kd.string w A0_1 l0_1.length l0_1) (hc0_1 : l0_1.length ≤ c0_1) (hr1_1 : Kd.C Kd.string w A1_1 l1_1.length l1_1) (hc1_1 : l1_1.length ≤ c1_1) (h : warderref17_Same.f k a0_0 l0_1 a0_2 a1_0 l1_1 a1_2 = some r) :
  Calls Tryd.prog 21 #[.agg #[.string a0_0, .slice A0_1 l0_1.length c0_1, .int .i64 a0_2], .agg #[.string a1_0, .slice A1_1 l1_1.length c1_1, .int .i64 a1_2]] w fun e w' => e = .returned (.bool r) ∧ Below w.heap.size w w' := by
 have hu35 := Tryd.underlying35
 have hu33 := Tryd.underlying33
 have HR0_1 := Aside0.mk hr0_1
 have HC0_1 := Aside0.mk hc0_1
 clear hr0_1 hc0_1
 have HR1_1 := Aside0.mk hr1_1
 have HC1_1 := Aside0.mk hc1_1
 clear hr1_1 hc1_1
 have HB := Aside0.mk (Below.refl w.heap.size w)
 have H : (if a0_2 = a1_2 then ((warderref09_AlikePrinc.f k a0_0 l0_1 a1_0 l1_1).bind fun t349 => (some t349)) else (some false)) = some r := h
 clear h
 by_cases c3 : a0_2 = a1_2
 ·rw [if_pos c3] at H
  have c3b0 : (a0_2 == a1_2) = true := beq_iff_eq.mpr c3
  have c3b1 : (a0_2 != a1_2) = false := bne_eq_false_iff_eq.mpr c3
  clear c3
  replace H := Option.bind_eq_some_iff.mp H
  obtain ⟨t349, A40, H⟩ := H
  replace H : (some t349) = some r := H
  have A4 := Aside0.mk A40
  clear A40
  obtain rfl := Option.some.inj H
  go_enter Tryd.func21, Tryd.ntmps21
  go_wp2_with (first | ((with_reducible refine gate_dst (N := 2) rfl ?_); refine box_event ?hg (N := 2) ?hd (cs := #[.string a0_0, .slice A0_1 l0_1.length c0_1, .int .i64 a0_2]) (t := 35) ?hr ?_; (case hd => rfl); (case hg => rfl); (case hr => first | (go_simp; done) | (go_simp; rfl)); intro gb347 hg w5 hbox hb; have n0_ := Aside0.mk (below_step (by repeat (first | (with_reducible first | exact HB.out | apply below_alloc | apply pw_below_drewN | apply below_drew1) | exact HB.out)) hb); have n1_ := Aside0.mk (hbox); have n2_ := Aside0.mk ((by rw [hg]; exact (below_size (by repeat (first | (with_reducible first | exact HB.out | apply below_alloc | apply pw_below_drewN | apply below_drew1) | exact HB.out))) : w.heap.size ≤ gb347)); have n3_ := Aside0.mk ((by rw [hg]; exact (below_size (by repeat (first | (with_reducible first | exact HB.out | apply below_alloc | apply pw_below_drewN | apply below_drew1) | exact HB.out))) : w.heap.size ≤ gb347)); clear HB; have HB := n0_; have BK347 := n1_; have GW347 := n2_; have GE347 := n3_; clear n0_ n1_ n2_ n3_; clear hb hbox hg) | ((with_reducible refine gate_dst (N := 3) rfl ?_); refine box_event ?hg (N := 3) ?hd (cs := #[.string a1_0, .slice A1_1 l1_1.length c1_1, .int .i64 a1_2]) (t := 35) ?hr ?_; (case hd => rfl); (case hg => rfl); (case hr => first | (go_simp; done) | (go_simp; rfl)); intro gb348 hg w6 hbox hb; have n0_ := Aside0.mk (blk_below (g := gb347) (o := .cells #[.string a0_0, .slice A0_1 l0_1.length c0_1, .int .i64 a0_2] 35 (0, 0)) (by (with_reducible repeat (first | refine blk_drewN ?_ _ | refine blk_drew ?_ | refine blk_alloc ?_ _)); exact BK347.out) hb); have n1_ := Aside0.mk (below_step (by repeat (first | (with_reducible first | exact HB.out | apply below_alloc | apply pw_below_drewN | apply below_drew1 | refine below_set ?_ GE347.out) | exact HB.out)) hb); have n2_ := Aside0.mk (hbox); have n3_ := Aside0.mk ((by rw [hg]; exact (below_size (by repeat (first | (with_reducible first | exact HB.out | apply below_alloc | apply pw_below_drewN | apply below_drew1 | refine below_set ?_ GE347.out) | exact HB.out))) : w.heap.size ≤ gb348)); have n4_ := Aside0.mk ((by rw [hg]; exact (below_size (by repeat (first | (with_reducible first | exact HB.out | apply below_alloc | apply pw_below_drewN | apply below_drew1 | refine below_set ?_ GE347.out) | exact HB.out))) : w.heap.size ≤ gb348)); have n5_ := Aside0.mk ((by rw [hg]; exact Nat.ne_of_lt (blk_lt (g := gb347) (o := .cells #[.string a0_0, .slice A0_1 l0_1.length c0_1, .int .i64 a0_2] 35 (0, 0)) (by (with_reducible repeat (first | refine blk_drewN ?_ _ | refine blk_drew ?_ | refine blk_alloc ?_ _)); exact BK347.out)) : gb347 ≠ gb348)); have n6_ := Aside0.mk ((by rw [hg]; exact Nat.ne_of_gt (blk_lt (g := gb347) (o := .cells #[.string a0_0, .slice A0_1 l0_1.length c0_1, .int .i64 a0_2] 35 (0, 0)) (by (with_reducible repeat (first | refine blk_drewN ?_ _ | refine blk_drew ?_ | refine blk_alloc ?_ _)); exact BK347.out)) : gb348 ≠ gb347)); clear BK347; clear HB; have BK347 := n0_; have HB := n1_; have BK348 := n2_; have GW348 := n3_; have GE348 := n4_; have NB347_348 := n5_; have NB348_347 := n6_; clear n0_ n1_ n2_ n3_ n4_ n5_ n6_; clear hb hbox hg; have hnb7 := NB347_348.out; have hnc7 := NB348_347.out; have hcz8_0 : w6.cell? ⟨gb347, 0, none⟩ = some (.string a0_0) := (blk_cell BK347.out 0).trans rfl; have hcz8_1 : w6.cell? ⟨gb347, 1, none⟩ = some (.slice A0_1 l0_1.length c0_1) := (blk_cell BK347.out 1).trans rfl; have hcz8_2 : w6.cell? ⟨gb347, 2, none⟩ = some (.int .i64 a0_2) := (blk_cell BK347.out 2).trans rfl; have hfz8_0 := blk_frozen BK347.out 0; have hfz8_1 := blk_frozen BK347.out 1; have hfz8_2 := blk_frozen BK347.out 2; have hcz9_0 : w6.cell? ⟨gb348, 0, none⟩ = some (.string a1_0) := (blk_cell BK348.out 0).trans rfl; have hcz9_1 : w6.cell? ⟨gb348, 1, none⟩ = some (.slice A1_1 l1_1.length c1_1) := (blk_cell BK348.out 1).trans rfl; have hcz9_2 : w6.cell? ⟨gb348, 2, none⟩ = some (.int .i64 a1_2) := (blk_cell BK348.out 2).trans rfl; have hfz9_0 := blk_frozen BK348.out 0; have hfz9_1 := blk_frozen BK348.out 1; have hfz9_2 := blk_frozen BK348.out 2) | (go_at_call 20; (with_reducible refine (warderref09_AlikePrinc.calls k a0_0 _ _ l0_1 a1_0 _ _ l1_1 t349 _ ?side1 ?side2 ?side3 ?side4 A4.out).mono ?_); (case side1 => repeat (first | exact (Kd.C_below HR0_1.out HB.out) | (with_reducible refine Kd.C_alloc ?_ _) | (with_reducible refine Kd.C_drewN ?_ _) | (with_reducible refine Kd.C_drew ?_))); (case side2 => exact HC0_1.out); (case side3 => repeat (first | exact (Kd.C_below HR1_1.out HB.out) | (with_reducible refine Kd.C_alloc ?_ _) | (with_reducible refine Kd.C_drewN ?_ _) | (with_reducible refine Kd.C_drew ?_))); (case side4 => exact HC1_1.out); rintro e w10 ⟨rfl, hb⟩; have n0_ := Aside0.mk (blk_below (g := gb347) (o := .cells #[.string a0_0, .slice A0_1 l0_1.length c0_1, .int .i64 a0_2] 35 (0, 0)) (by (with_reducible repeat (first | refine blk_drewN ?_ _ | refine blk_drew ?_ | refine blk_alloc ?_ _)); exact BK347.out) hb); have n1_ := Aside0.mk (blk_below (g := gb348) (o := .cells #[.string a1_0, .slice A1_1 l1_1.length c1_1, .int .i64 a1_2] 35 (0, 0)) (by (with_reducible repeat (first | refine blk_drewN ?_ _ | refine blk_drew ?_ | refine blk_alloc ?_ _)); exact BK348.out) hb); have n2_ := Aside0.mk (below_step (by repeat (first | (with_reducible first | exact HB.out | apply below_alloc | apply pw_below_drewN | apply below_drew1 | refine below_set ?_ GE347.out | refine below_set ?_ GE348.out) | exact HB.out)) hb); clear BK347; clear BK348; clear HB; have BK347 := n0_; have BK348 := n1_; have HB := n2_; clear n0_ n1_ n2_; (try clear hb); (try clear hb2); (try clear hk); (try clear hi)))
  go_ret
  exact ⟨by first | rfl | (simp [errW_none, errW_some] <;> rfl) | (simp [*, errW_none, errW_some] <;> rfl), by repeat (first | (with_reducible first | exact HB.out | apply below_alloc | apply pw_below_drewN | apply below_drew1 | refine below_set ?_ GE347.out | refine below_set ?_ GE348.out) | exact HB.out)⟩
 ·rw [if_neg c3] at H
  have c3b0 : (a0_2 == a1_2) = false := beq_eq_false_iff_ne.mpr c3
  have c3b1 : (a0_2 != a1_2) = true := bne_iff_ne.mpr c3
  obtain rfl := Option.some.inj H
  go_enter Tryd.func21, Tryd.ntmps21
  go_wp2_with (first | ((with_reducible refine gate_dst (N := 2) rfl ?_); refine box_event ?hg (N := 2) ?hd (cs := #[.string a0_0, .slice A0_1 l0_1.length c0_1, .int .i64 a0_2]) (t := 35) ?hr ?_; (case hd => rfl); (case hg => rfl); (case hr => first | (go_simp; done) | (go_simp; rfl)); intro gb347 hg w11 hbox hb; have n0_ := Aside0.mk (below_step (by repeat (first | (with_reducible first | exact HB.out | apply below_alloc | apply pw_below_drewN | apply below_drew1) | exact HB.out)) hb); have n1_ := Aside0.mk (hbox); have n2_ := Aside0.mk ((by rw [hg]; exact (below_size (by repeat (first | (with_reducible first | exact HB.out | apply below_alloc | apply pw_below_drewN | apply below_drew1) | exact HB.out))) : w.heap.size ≤ gb347)); have n3_ := Aside0.mk ((by rw [hg]; exact (below_size (by repeat (first | (with_reducible first | exact HB.out | apply below_alloc | apply pw_below_drewN | apply below_drew1) | exact HB.out))) : w.heap.size ≤ gb347)); clear HB; have HB := n0_; have BK347 := n1_; have GW347 := n2_; have GE347 := n3_; clear n0_ n1_ n2_ n3_; clear hb hbox hg) | ((with_reducible refine gate_dst (N := 3) rfl ?_); refine box_event ?hg (N := 3) ?hd (cs := #[.string a1_0, .slice A1_1 l1_1.length c1_1, .int .i64 a1_2]) (t := 35) ?hr ?_; (case hd => rfl); (case hg => rfl); (case hr => first | (go_simp; done) | (go_simp; rfl)); intro gb348 hg w12 hbox hb; have n0_ := Aside0.mk (blk_below (g := gb347) (o := .cells #[.string a0_0, .slice A0_1 l0_1.length c0_1, .int .i64 a0_2] 35 (0, 0)) (by (with_reducible repeat (first | refine blk_drewN ?_ _ | refine blk_drew ?_ | refine blk_alloc ?_ _)); exact BK347.out) hb); have n1_ := Aside0.mk (below_step (by repeat (first | (with_reducible first | exact HB.out | apply below_alloc | apply pw_below_drewN | apply below_drew1 | refine below_set ?_ GE347.out) | exact HB.out)) hb); have n2_ := Aside0.mk (hbox); have n3_ := Aside0.mk ((by rw [hg]; exact (below_size (by repeat (first | (with_reducible first | exact HB.out | apply below_alloc | apply pw_below_drewN | apply below_drew1 | refine below_set ?_ GE347.out) | exact HB.out))) : w.heap.size ≤ gb348)); have n4_ := Aside0.mk ((by rw [hg]; exact (below_size (by repeat (first | (with_reducible first | exact HB.out | apply below_alloc | apply pw_below_drewN | apply below_drew1 | refine below_set ?_ GE347.out) | exact HB.out))) : w.heap.size ≤ gb348)); have n5_ := Aside0.mk ((by rw [hg]; exact Nat.ne_of_lt (blk_lt (g := gb347) (o := .cells #[.string a0_0, .slice A0_1 l0_1.length c0_1, .int .i64 a0_2] 35 (0, 0)) (by (with_reducible repeat (first | refine blk_drewN ?_ _ | refine blk_drew ?_ | refine blk_alloc ?_ _)); exact BK347.out)) : gb347 ≠ gb348)); have n6_ := Aside0.mk ((by rw [hg]; exact Nat.ne_of_gt (blk_lt (g := gb347) (o := .cells #[.string a0_0, .slice A0_1 l0_1.length c0_1, .int .i64 a0_2] 35 (0, 0)) (by (with_reducible repeat (first | refine blk_drewN ?_ _ | refine blk_drew ?_ | refine blk_alloc ?_ _)); exact BK347.out)) : gb348 ≠ gb347)); clear BK347; clear HB; have BK347 := n0_; have HB := n1_; have BK348 := n2_; have GW348 := n3_; have GE348 := n4_; have NB347_348 := n5_; have NB348_347 := n6_; clear n0_ n1_ n2_ n3_ n4_ n5_ n6_; clear hb hbox hg; have hnb13 := NB347_348.out; have hnc13 := NB348_347.out; have hcz14_0 : w12.cell? ⟨gb347, 0, none⟩ = some (.string a0_0) := (blk_cell BK347.out 0).trans rfl; have hcz14_1 : w12.cell? ⟨gb347, 1, none⟩ = some (.slice A0_1 l0_1.length c0_1) := (blk_cell BK347.out 1).trans rfl; have hcz14_2 : w12.cell? ⟨gb347, 2, none⟩ = some (.int .i64 a0_2) := (blk_cell BK347.out 2).trans rfl; have hfz14_0 := blk_frozen BK347.out 0; have hfz14_1 := blk_frozen BK347.out 1; have hfz14_2 := blk_frozen BK347.out 2; have hcz15_0 : w12.cell? ⟨gb348, 0, none⟩ = some (.string a1_0) := (blk_cell BK348.out 0).trans rfl; have hcz15_1 : w12.cell? ⟨gb348, 1, none⟩ = some (.slice A1_1 l1_1.length c1_1) := (blk_cell BK348.out 1).trans rfl; have hcz15_2 : w12.cell? ⟨gb348, 2, none⟩ = some (.int .i64 a1_2) := (blk_cell BK348.out 2).trans rfl; have hfz15_0 := blk_frozen BK348.out 0; have hfz15_1 := blk_frozen BK348.out 1; have hfz15_2 := blk_frozen BK348.out 2))
  go_ret
  exact ⟨by first | rfl | (simp [errW_none, errW_some] <;> rfl) | (simp [*, errW_none, errW_some] <;> rfl), by repeat (first | (with_reducible first | exact HB.out | apply below_alloc | apply pw_below_drewN | apply below_drew1 | refine below_set ?_ GE347.out | refine below_set ?_ GE348.out) | exact HB.out)⟩
noncomputable def warderref18_Same.f (k : Nat) (a0_0 : Int) (l0_1 : List Int) (a0_2 : ByteArray) (l0_3 : List ByteArray) (a0_4 : ByteArray) (l0_5 : List ByteArray) (a0_6 : Int) (a1_0 : Int) (l1_1 : List Int) (a1_2 : ByteArray) (l1_3 : List ByteArray) (a1_4 : ByteArray) (l1_5 : List ByteArray) (a1_6 : Int) : Option (Bool) := (warderref09_AlikePrinc.f k a0_2 l0_3 a1_2 l1_3).bind fun t352 => (if t352 = true then (if a0_0 = a1_0 then (if (strOfNums l0_1).toList = (strOfNums l1_1).toList then ((warderref17_Same.f k a0_4 l0_5 a0_6 a1_4 l1_5 a1_6).bind fun t353 => (some t353)) else (some false)) else (some false)) else (some false))
theorem warderref18_Same.mono : ∀ a0 a1 a2 a3 a4 a5 a6 a7 a8 a9 a10 a11 a12 a13 k, LeO (warderref18_Same.f k a0 a1 a2 a3 a4 a5 a6 a7 a8 a9 a10 a11 a12 a13) (warderref18_Same.f (k + 1) a0 a1 a2 a3 a4 a5 a6 a7 a8 a9 a10 a11 a12 a13) := by
 intro a0 a1 a2 a3 a4 a5 a6 a7 a8 a9 a10 a11 a12 a13 k
 unfold warderref18_Same.f
 repeat' first
   | (with_reducible exact warderref09_AlikePrinc.mono _ _ _ _ _)
   | (with_reducible exact warderref17_Same.mono _ _ _ _ _ _ _)
   | (with_reducible exact LeO.refl _)
   | (with_reducible exact LeO.none _)
   | (with_reducible refine LeO.ite ?_ ?_)
   | (with_reducible refine LeO.bind ?_ (fun _ => ?_))
   | exact warderref09_AlikePrinc.mono _ _ _ _ _
   | exact warderref17_Same.mono _ _ _ _ _ _ _
   | exact LeO.none _
   | refine LeO.ite ?_ ?_
   | refine LeO.bind ?_ (fun _ => ?_)
set_option maxHeartbeats 8000000 in
set_option maxRecDepth 100000 in
theorem warderref18_Same.calls (k : Nat) (a0_0 : Int) (A0_1 : Option Addr) (c0_1 : Nat) (l0_1 : List Int) (a0_2 : ByteArray) (A0_3 : Option Addr) (c0_3 : Nat) (l0_3 : List ByteArray) (a0_4 : ByteArray) (A0_5 : Option Addr) (c0_5 : Nat) (l0_5 : List ByteArray) (a0_6 : Int) (a1_0 : Int) (A1_1 : Option Addr) (c1_1 : Nat) (l1_1 : List Int) (a1_2 : ByteArray) (A1_3 : Option Addr) (c1_3 : Nat) (l1_3 : List ByteArray) (a1_4 : ByteArray) (A1_5 : Option Addr) (c1_5 : Nat) (l1_5 : List ByteArray) (a1_6 : Int) (r : Bool) (w : World) (hr0_1 : Kd.C (Kd.int .u8) w A0_1 l0_1.length l0_1) (hc0_1 : l0_1.length ≤ c0_1) (hr0_3 : Kd.C Kd.string w A0_3 l0_3.length l0_3) (hc0_3 : l0_3.length ≤ c0_3) (hr0_5 : Kd.C Kd.string w A0_5 l0_5.length l0_5) (hc0_5 : l0_5.length ≤ c0_5) (hr1_1 : Kd.C (Kd.int .u8) w A1_1 l1_1.length l1_1) (hc1_1 : l1_1.length ≤ c1_1) (hr1_3 : Kd.C Kd.string w A1_3 l1_3.length l1_3) (hc1_3 : l1_3.length ≤ c1_3) (hr1_5 : Kd.C Kd.string w A1_5 l1_5.length l1_5) (hc1_5 : l1_5.length ≤ c1_5) (h : warderref18_Same.f k a0_0 l0_1 a0_2 l0_3 a0_4 l0_5 a0_6 a1_0 l1_1 a1_2 l1_3 a1_4 l1_5 a1_6 = some r) :
  Calls Tryd.prog 11 #[.agg #[.int .i64 a0_0, .slice A0_1 l0_1.length c0_1, .string a0_2, .slice A0_3 l0_3.length c0_3, .string a0_4, .slice A0_5 l0_5.length c0_5, .int .i64 a0_6], .agg #[.int .i64 a1_0, .slice A1_1 l1_1.length c1_1, .string a1_2, .slice A1_3 l1_3.length c1_3, .string a1_4, .slice A1_5 l1_5.length c1_5, .int .i64 a1_6]] w fun e w' => e = .returned (.bool r) ∧ Below w.heap.size w w' := by
 have hu37 := Tryd.underlying37
 have hu33 := Tryd.underlying33
 have hu35 := Tryd.underlying35
 have HR0_1 := Aside0.mk hr0_1
 have HC0_1 := Aside0.mk hc0_1
 clear hr0_1 hc0_1
 have HR0_3 := Aside0.mk hr0_3
 have HC0_3 := Aside0.mk hc0_3
 clear hr0_3 hc0_3
 have HR0_5 := Aside0.mk hr0_5
 have HC0_5 := Aside0.mk hc0_5
 clear hr0_5 hc0_5
 have HR1_1 := Aside0.mk hr1_1
 have HC1_1 := Aside0.mk hc1_1
 clear hr1_1 hc1_1
 have HR1_3 := Aside0.mk hr1_3
 have HC1_3 := Aside0.mk hc1_3
 clear hr1_3 hc1_3
 have HR1_5 := Aside0.mk hr1_5
 have HC1_5 := Aside0.mk hc1_5
 clear hr1_5 hc1_5
 have HB := Aside0.mk (Below.refl w.heap.size w)
 have H : ((warderref09_AlikePrinc.f k a0_2 l0_3 a1_2 l1_3).bind fun t352 => (if t352 = true then (if a0_0 = a1_0 then (if (strOfNums l0_1).toList = (strOfNums l1_1).toList then ((warderref17_Same.f k a0_4 l0_5 a0_6 a1_4 l1_5 a1_6).bind fun t353 => (some t353)) else (some false)) else (some false)) else (some false))) = some r := h
 clear h
 replace H := Option.bind_eq_some_iff.mp H
 obtain ⟨t352, A30, H⟩ := H
 replace H : (if t352 = true then (if a0_0 = a1_0 then (if (strOfNums l0_1).toList = (strOfNums l1_1).toList then ((warderref17_Same.f k a0_4 l0_5 a0_6 a1_4 l1_5 a1_6).bind fun t353 => (some t353)) else (some false)) else (some false)) else (some false)) = some r := H
 have A3 := Aside0.mk A30
 clear A30
 by_cases c4 : t352 = true
 ·subst c4
  have H1 : (if a0_0 = a1_0 then (if (strOfNums l0_1).toList = (strOfNums l1_1).toList then ((warderref17_Same.f k a0_4 l0_5 a0_6 a1_4 l1_5 a1_6).bind fun t353 => (some t353)) else (some false)) else (some false)) = some r := by rw [if_pos rfl] at H; exact H
  clear H
  have H := H1
  clear H1
  by_cases c5 : a0_0 = a1_0
  ·rw [if_pos c5] at H
   have c5b0 : (a0_0 == a1_0) = true := beq_iff_eq.mpr c5
   have c5b1 : (a0_0 != a1_0) = false := bne_eq_false_iff_eq.mpr c5
   clear c5
   by_cases c6 : (strOfNums l0_1).toList = (strOfNums l1_1).toList
   ·rw [if_pos c6] at H
    have c6b0 : ((strOfNums l0_1).toList == (strOfNums l1_1).toList) = true := beq_iff_eq.mpr c6
    have c6b1 : ((strOfNums l0_1).toList != (strOfNums l1_1).toList) = false := bne_eq_false_iff_eq.mpr c6
    clear c6
    replace H := Option.bind_eq_some_iff.mp H
    obtain ⟨t353, A70, H⟩ := H
    replace H : (some t353) = some r := H
    have A7 := Aside0.mk A70
    clear A70
    obtain rfl := Option.some.inj H
    go_enter Tryd.func11, Tryd.ntmps11
    go_wp2_with (first | ((with_reducible refine gate_dst (N := 2) rfl ?_); refine box_event ?hg (N := 2) ?hd (cs := #[.int .i64 a0_0, .slice A0_1 l0_1.length c0_1, .string a0_2, .slice A0_3 l0_3.length c0_3, .string a0_4, .slice A0_5 l0_5.length c0_5, .int .i64 a0_6]) (t := 37) ?hr ?_; (case hd => rfl); (case hg => rfl); (case hr => first | (go_simp; done) | (go_simp; rfl)); intro gb350 hg w8 hbox hb; have n0_ := Aside0.mk (below_step (by repeat (first | (with_reducible first | exact HB.out | apply below_alloc | apply pw_below_drewN | apply below_drew1) | exact HB.out)) hb); have n1_ := Aside0.mk (hbox); have n2_ := Aside0.mk ((by rw [hg]; exact (below_size (by repeat (first | (with_reducible first | exact HB.out | apply below_alloc | apply pw_below_drewN | apply below_drew1) | exact HB.out))) : w.heap.size ≤ gb350)); have n3_ := Aside0.mk ((by rw [hg]; exact (below_size (by repeat (first | (with_reducible first | exact HB.out | apply below_alloc | apply pw_below_drewN | apply below_drew1) | exact HB.out))) : w.heap.size ≤ gb350)); clear HB; have HB := n0_; have BK350 := n1_; have GW350 := n2_; have GE350 := n3_; clear n0_ n1_ n2_ n3_; clear hb hbox hg) | ((with_reducible refine gate_dst (N := 3) rfl ?_); refine box_event ?hg (N := 3) ?hd (cs := #[.int .i64 a1_0, .slice A1_1 l1_1.length c1_1, .string a1_2, .slice A1_3 l1_3.length c1_3, .string a1_4, .slice A1_5 l1_5.length c1_5, .int .i64 a1_6]) (t := 37) ?hr ?_; (case hd => rfl); (case hg => rfl); (case hr => first | (go_simp; done) | (go_simp; rfl)); intro gb351 hg w9 hbox hb; have n0_ := Aside0.mk (blk_below (g := gb350) (o := .cells #[.int .i64 a0_0, .slice A0_1 l0_1.length c0_1, .string a0_2, .slice A0_3 l0_3.length c0_3, .string a0_4, .slice A0_5 l0_5.length c0_5, .int .i64 a0_6] 37 (0, 0)) (by (with_reducible repeat (first | refine blk_drewN ?_ _ | refine blk_drew ?_ | refine blk_alloc ?_ _)); exact BK350.out) hb); have n1_ := Aside0.mk (below_step (by repeat (first | (with_reducible first | exact HB.out | apply below_alloc | apply pw_below_drewN | apply below_drew1 | refine below_set ?_ GE350.out) | exact HB.out)) hb); have n2_ := Aside0.mk (hbox); have n3_ := Aside0.mk ((by rw [hg]; exact (below_size (by repeat (first | (with_reducible first | exact HB.out | apply below_alloc | apply pw_below_drewN | apply below_drew1 | refine below_set ?_ GE350.out) | exact HB.out))) : w.heap.size ≤ gb351)); have n4_ := Aside0.mk ((by rw [hg]; exact (below_size (by repeat (first | (with_reducible first | exact HB.out | apply below_alloc | apply pw_below_drewN | apply below_drew1 | refine below_set ?_ GE350.out) | exact HB.out))) : w.heap.size ≤ gb351)); have n5_ := Aside0.mk ((by rw [hg]; exact Nat.ne_of_lt (blk_lt (g := gb350) (o := .cells #[.int .i64 a0_0, .slice A0_1 l0_1.length c0_1, .string a0_2, .slice A0_3 l0_3.length c0_3, .string a0_4, .slice A0_5 l0_5.length c0_5, .int .i64 a0_6] 37 (0, 0)) (by (with_reducible repeat (first | refine blk_drewN ?_ _ | refine blk_drew ?_ | refine blk_alloc ?_ _)); exact BK350.out)) : gb350 ≠ gb351)); have n6_ := Aside0.mk ((by rw [hg]; exact Nat.ne_of_gt (blk_lt (g := gb350) (o := .cells #[.int .i64 a0_0, .slice A0_1 l0_1.length c0_1, .string a0_2, .slice A0_3 l0_3.length c0_3, .string a0_4, .slice A0_5 l0_5.length c0_5, .int .i64 a0_6] 37 (0, 0)) (by (with_reducible repeat (first | refine blk_drewN ?_ _ | refine blk_drew ?_ | refine blk_alloc ?_ _)); exact BK350.out)) : gb351 ≠ gb350)); clear BK350; clear HB; have BK350 := n0_; have HB := n1_; have BK351 := n2_; have GW351 := n3_; have GE351 := n4_; have NB350_351 := n5_; have NB351_350 := n6_; clear n0_ n1_ n2_ n3_ n4_ n5_ n6_; clear hb hbox hg; have hnb10 := NB350_351.out; have hnc10 := NB351_350.out; have hcz11_0 : w9.cell? ⟨gb350, 0, none⟩ = some (.int .i64 a0_0) := (blk_cell BK350.out 0).trans rfl; have hcz11_1 : w9.cell? ⟨gb350, 1, none⟩ = some (.slice A0_1 l0_1.length c0_1) := (blk_cell BK350.out 1).trans rfl; have hcz11_2 : w9.cell? ⟨gb350, 2, none⟩ = some (.string a0_2) := (blk_cell BK350.out 2).trans rfl; have hcz11_3 : w9.cell? ⟨gb350, 3, none⟩ = some (.slice A0_3 l0_3.length c0_3) := (blk_cell BK350.out 3).trans rfl; have hcz11_4 : w9.cell? ⟨gb350, 4, none⟩ = some (.string a0_4) := (blk_cell BK350.out 4).trans rfl; have hcz11_5 : w9.cell? ⟨gb350, 5, none⟩ = some (.slice A0_5 l0_5.length c0_5) := (blk_cell BK350.out 5).trans rfl; have hcz11_6 : w9.cell? ⟨gb350, 6, none⟩ = some (.int .i64 a0_6) := (blk_cell BK350.out 6).trans rfl; have hfz11_0 := blk_frozen BK350.out 0; have hfz11_1 := blk_frozen BK350.out 1; have hfz11_2 := blk_frozen BK350.out 2; have hfz11_3 := blk_frozen BK350.out 3; have hfz11_4 := blk_frozen BK350.out 4; have hfz11_5 := blk_frozen BK350.out 5; have hfz11_6 := blk_frozen BK350.out 6; have hcz12_0 : w9.cell? ⟨gb351, 0, none⟩ = some (.int .i64 a1_0) := (blk_cell BK351.out 0).trans rfl; have hcz12_1 : w9.cell? ⟨gb351, 1, none⟩ = some (.slice A1_1 l1_1.length c1_1) := (blk_cell BK351.out 1).trans rfl; have hcz12_2 : w9.cell? ⟨gb351, 2, none⟩ = some (.string a1_2) := (blk_cell BK351.out 2).trans rfl; have hcz12_3 : w9.cell? ⟨gb351, 3, none⟩ = some (.slice A1_3 l1_3.length c1_3) := (blk_cell BK351.out 3).trans rfl; have hcz12_4 : w9.cell? ⟨gb351, 4, none⟩ = some (.string a1_4) := (blk_cell BK351.out 4).trans rfl; have hcz12_5 : w9.cell? ⟨gb351, 5, none⟩ = some (.slice A1_5 l1_5.length c1_5) := (blk_cell BK351.out 5).trans rfl; have hcz12_6 : w9.cell? ⟨gb351, 6, none⟩ = some (.int .i64 a1_6) := (blk_cell BK351.out 6).trans rfl; have hfz12_0 := blk_frozen BK351.out 0; have hfz12_1 := blk_frozen BK351.out 1; have hfz12_2 := blk_frozen BK351.out 2; have hfz12_3 := blk_frozen BK351.out 3; have hfz12_4 := blk_frozen BK351.out 4; have hfz12_5 := blk_frozen BK351.out 5; have hfz12_6 := blk_frozen BK351.out 6) | ((with_reducible refine gate_callee (f := 20) rfl ?_); refine goesL_ (some 10) rfl rfl Tryd.func20 (by kernel_rfl) rfl #[.agg #[.string a0_2, .slice A0_3 l0_3.length c0_3], .agg #[.string a1_2, .slice A1_3 l1_3.length c1_3]] rfl (by (try simp only [List.map_toArray, List.map_cons, List.map_nil]); first | done | rfl | (simp only [List.length_drop, List.length_take]; rfl)) ?_; (with_reducible refine (warderref09_AlikePrinc.calls k a0_2 _ _ l0_3 a1_2 _ _ l1_3 true _ ?side1 ?side2 ?side3 ?side4 A3.out).mono ?_); (case side1 => repeat (first | exact (Kd.C_below HR0_3.out HB.out) | (with_reducible refine Kd.C_alloc ?_ _) | (with_reducible refine Kd.C_drewN ?_ _) | (with_reducible refine Kd.C_drew ?_))); (case side2 => exact HC0_3.out); (case side3 => repeat (first | exact (Kd.C_below HR1_3.out HB.out) | (with_reducible refine Kd.C_alloc ?_ _) | (with_reducible refine Kd.C_drewN ?_ _) | (with_reducible refine Kd.C_drew ?_))); (case side4 => exact HC1_3.out); rintro e w13 ⟨rfl, hb⟩; refine ⟨_, rfl, ?_⟩; have n0_ := Aside0.mk (blk_below (g := gb350) (o := .cells #[.int .i64 a0_0, .slice A0_1 l0_1.length c0_1, .string a0_2, .slice A0_3 l0_3.length c0_3, .string a0_4, .slice A0_5 l0_5.length c0_5, .int .i64 a0_6] 37 (0, 0)) (by (with_reducible repeat (first | refine blk_drewN ?_ _ | refine blk_drew ?_ | refine blk_alloc ?_ _)); exact BK350.out) hb); have n1_ := Aside0.mk (blk_below (g := gb351) (o := .cells #[.int .i64 a1_0, .slice A1_1 l1_1.length c1_1, .string a1_2, .slice A1_3 l1_3.length c1_3, .string a1_4, .slice A1_5 l1_5.length c1_5, .int .i64 a1_6] 37 (0, 0)) (by (with_reducible repeat (first | refine blk_drewN ?_ _ | refine blk_drew ?_ | refine blk_alloc ?_ _)); exact BK351.out) hb); have n2_ := Aside0.mk (below_step (by repeat (first | (with_reducible first | exact HB.out | apply below_alloc | apply pw_below_drewN | apply below_drew1 | refine below_set ?_ GE350.out | refine below_set ?_ GE351.out) | exact HB.out)) hb); clear BK350; clear BK351; clear HB; have BK350 := n0_; have BK351 := n1_; have HB := n2_; clear n0_ n1_ n2_; (try clear hb); (try clear hb2); (try clear hk); (try clear hi); have hcz14_0 : w13.cell? ⟨gb350, 0, none⟩ = some (.int .i64 a0_0) := (blk_cell BK350.out 0).trans rfl; have hcz14_1 : w13.cell? ⟨gb350, 1, none⟩ = some (.slice A0_1 l0_1.length c0_1) := (blk_cell BK350.out 1).trans rfl; have hcz14_2 : w13.cell? ⟨gb350, 2, none⟩ = some (.string a0_2) := (blk_cell BK350.out 2).trans rfl; have hcz14_3 : w13.cell? ⟨gb350, 3, none⟩ = some (.slice A0_3 l0_3.length c0_3) := (blk_cell BK350.out 3).trans rfl; have hcz14_4 : w13.cell? ⟨gb350, 4, none⟩ = some (.string a0_4) := (blk_cell BK350.out 4).trans rfl; have hcz14_5 : w13.cell? ⟨gb350, 5, none⟩ = some (.slice A0_5 l0_5.length c0_5) := (blk_cell BK350.out 5).trans rfl; have hcz14_6 : w13.cell? ⟨gb350, 6, none⟩ = some (.int .i64 a0_6) := (blk_cell BK350.out 6).trans rfl; have hfz14_0 := blk_frozen BK350.out 0; have hfz14_1 := blk_frozen BK350.out 1; have hfz14_2 := blk_frozen BK350.out 2; have hfz14_3 := blk_frozen BK350.out 3; have hfz14_4 := blk_frozen BK350.out 4; have hfz14_5 := blk_frozen BK350.out 5; have hfz14_6 := blk_frozen BK350.out 6; have hcz15_0 : w13.cell? ⟨gb351, 0, none⟩ = some (.int .i64 a1_0) := (blk_cell BK351.out 0).trans rfl; have hcz15_1 : w13.cell? ⟨gb351, 1, none⟩ = some (.slice A1_1 l1_1.length c1_1) := (blk_cell BK351.out 1).trans rfl; have hcz15_2 : w13.cell? ⟨gb351, 2, none⟩ = some (.string a1_2) := (blk_cell BK351.out 2).trans rfl; have hcz15_3 : w13.cell? ⟨gb351, 3, none⟩ = some (.slice A1_3 l1_3.length c1_3) := (blk_cell BK351.out 3).trans rfl; have hcz15_4 : w13.cell? ⟨gb351, 4, none⟩ = some (.string a1_4) := (blk_cell BK351.out 4).trans rfl; have hcz15_5 : w13.cell? ⟨gb351, 5, none⟩ = some (.slice A1_5 l1_5.length c1_5) := (blk_cell BK351.out 5).trans rfl; have hcz15_6 : w13.cell? ⟨gb351, 6, none⟩ = some (.int .i64 a1_6) := (blk_cell BK351.out 6).trans rfl; have hfz15_0 := blk_frozen BK351.out 0; have hfz15_1 := blk_frozen BK351.out 1; have hfz15_2 := blk_frozen BK351.out 2; have hfz15_3 := blk_frozen BK351.out 3; have hfz15_4 := blk_frozen BK351.out 4; have hfz15_5 := blk_frozen BK351.out 5; have hfz15_6 := blk_frozen BK351.out 6; have hcv16 := Kd.C_string (P := Tryd.prog) (A := A0_1) (c := c0_1) Tryd.underlying25 Tryd.underlying5 Tryd.underlying9 (Kd.C_below HR0_1.out HB.out); have hcv17 := Kd.C_string (P := Tryd.prog) (A := A1_1) (c := c1_1) Tryd.underlying25 Tryd.underlying5 Tryd.underlying9 (Kd.C_below HR1_1.out HB.out)) | (go_at_call 21; (with_reducible refine (warderref17_Same.calls k a0_4 _ _ l0_5 a0_6 a1_4 _ _ l1_5 a1_6 t353 _ ?side1 ?side2 ?side3 ?side4 A7.out).mono ?_); (case side1 => repeat (first | exact (Kd.C_below HR0_5.out HB.out) | (with_reducible refine Kd.C_alloc ?_ _) | (with_reducible refine Kd.C_drewN ?_ _) | (with_reducible refine Kd.C_drew ?_))); (case side2 => exact HC0_5.out); (case side3 => repeat (first | exact (Kd.C_below HR1_5.out HB.out) | (with_reducible refine Kd.C_alloc ?_ _) | (with_reducible refine Kd.C_drewN ?_ _) | (with_reducible refine Kd.C_drew ?_))); (case side4 => exact HC1_5.out); rintro e w18 ⟨rfl, hb⟩; have n0_ := Aside0.mk (blk_below (g := gb350) (o := .cells #[.int .i64 a0_0, .slice A0_1 l0_1.length c0_1, .string a0_2, .slice A0_3 l0_3.length c0_3, .string a0_4, .slice A0_5 l0_5.length c0_5, .int .i64 a0_6] 37 (0, 0)) (by (with_reducible repeat (first | refine blk_drewN ?_ _ | refine blk_drew ?_ | refine blk_alloc ?_ _)); exact BK350.out) hb); have n1_ := Aside0.mk (blk_below (g := gb351) (o := .cells #[.int .i64 a1_0, .slice A1_1 l1_1.length c1_1, .string a1_2, .slice A1_3 l1_3.length c1_3, .string a1_4, .slice A1_5 l1_5.length c1_5, .int .i64 a1_6] 37 (0, 0)) (by (with_reducible repeat (first | refine blk_drewN ?_ _ | refine blk_drew ?_ | refine blk_alloc ?_ _)); exact BK351.out) hb); have n2_ := Aside0.mk (below_step (by repeat (first | (with_reducible first | exact HB.out | apply below_alloc | apply pw_below_drewN | apply below_drew1 | refine below_set ?_ GE350.out | refine below_set ?_ GE351.out) | exact HB.out)) hb); clear BK350; clear BK351; clear HB; have BK350 := n0_; have BK351 := n1_; have HB := n2_; clear n0_ n1_ n2_; (try clear hb); (try clear hb2); (try clear hk); (try clear hi)))
    go_ret
    exact ⟨by first | rfl | (simp [errW_none, errW_some] <;> rfl) | (simp [*, errW_none, errW_some] <;> rfl), by repeat (first | (with_reducible first | exact HB.out | apply below_alloc | apply pw_below_drewN | apply below_drew1 | refine below_set ?_ GE350.out | refine below_set ?_ GE351.out) | exact HB.out)⟩
   ·rw [if_neg c6] at H
    have c6b0 : ((strOfNums l0_1).toList == (strOfNums l1_1).toList) = false := beq_eq_false_iff_ne.mpr c6
    have c6b1 : ((strOfNums l0_1).toList != (strOfNums l1_1).toList) = true := bne_iff_ne.mpr c6
    obtain rfl := Option.some.inj H
    go_enter Tryd.func11, Tryd.ntmps11
    go_wp2_with (first | ((with_reducible refine gate_dst (N := 2) rfl ?_); refine box_event ?hg (N := 2) ?hd (cs := #[.int .i64 a0_0, .slice A0_1 l0_1.length c0_1, .string a0_2, .slice A0_3 l0_3.length c0_3, .string a0_4, .slice A0_5 l0_5.length c0_5, .int .i64 a0_6]) (t := 37) ?hr ?_; (case hd => rfl); (case hg => rfl); (case hr => first | (go_simp; done) | (go_simp; rfl)); intro gb350 hg w19 hbox hb; have n0_ := Aside0.mk (below_step (by repeat (first | (with_reducible first | exact HB.out | apply below_alloc | apply pw_below_drewN | apply below_drew1) | exact HB.out)) hb); have n1_ := Aside0.mk (hbox); have n2_ := Aside0.mk ((by rw [hg]; exact (below_size (by repeat (first | (with_reducible first | exact HB.out | apply below_alloc | apply pw_below_drewN | apply below_drew1) | exact HB.out))) : w.heap.size ≤ gb350)); have n3_ := Aside0.mk ((by rw [hg]; exact (below_size (by repeat (first | (with_reducible first | exact HB.out | apply below_alloc | apply pw_below_drewN | apply below_drew1) | exact HB.out))) : w.heap.size ≤ gb350)); clear HB; have HB := n0_; have BK350 := n1_; have GW350 := n2_; have GE350 := n3_; clear n0_ n1_ n2_ n3_; clear hb hbox hg) | ((with_reducible refine gate_dst (N := 3) rfl ?_); refine box_event ?hg (N := 3) ?hd (cs := #[.int .i64 a1_0, .slice A1_1 l1_1.length c1_1, .string a1_2, .slice A1_3 l1_3.length c1_3, .string a1_4, .slice A1_5 l1_5.length c1_5, .int .i64 a1_6]) (t := 37) ?hr ?_; (case hd => rfl); (case hg => rfl); (case hr => first | (go_simp; done) | (go_simp; rfl)); intro gb351 hg w20 hbox hb; have n0_ := Aside0.mk (blk_below (g := gb350) (o := .cells #[.int .i64 a0_0, .slice A0_1 l0_1.length c0_1, .string a0_2, .slice A0_3 l0_3.length c0_3, .string a0_4, .slice A0_5 l0_5.length c0_5, .int .i64 a0_6] 37 (0, 0)) (by (with_reducible repeat (first | refine blk_drewN ?_ _ | refine blk_drew ?_ | refine blk_alloc ?_ _)); exact BK350.out) hb); have n1_ := Aside0.mk (below_step (by repeat (first | (with_reducible first | exact HB.out | apply below_alloc | apply pw_below_drewN | apply below_drew1 | refine below_set ?_ GE350.out) | exact HB.out)) hb); have n2_ := Aside0.mk (hbox); have n3_ := Aside0.mk ((by rw [hg]; exact (below_size (by repeat (first | (with_reducible first | exact HB.out | apply below_alloc | apply pw_below_drewN | apply below_drew1 | refine below_set ?_ GE350.out) | exact HB.out))) : w.heap.size ≤ gb351)); have n4_ := Aside0.mk ((by rw [hg]; exact (below_size (by repeat (first | (with_reducible first | exact HB.out | apply below_alloc | apply pw_below_drewN | apply below_drew1 | refine below_set ?_ GE350.out) | exact HB.out))) : w.heap.size ≤ gb351)); have n5_ := Aside0.mk ((by rw [hg]; exact Nat.ne_of_lt (blk_lt (g := gb350) (o := .cells #[.int .i64 a0_0, .slice A0_1 l0_1.length c0_1, .string a0_2, .slice A0_3 l0_3.length c0_3, .string a0_4, .slice A0_5 l0_5.length c0_5, .int .i64 a0_6] 37 (0, 0)) (by (with_reducible repeat (first | refine blk_drewN ?_ _ | refine blk_drew ?_ | refine blk_alloc ?_ _)); exact BK350.out)) : gb350 ≠ gb351)); have n6_ := Aside0.mk ((by rw [hg]; exact Nat.ne_of_gt (blk_lt (g := gb350) (o := .cells #[.int .i64 a0_0, .slice A0_1 l0_1.length c0_1, .string a0_2, .slice A0_3 l0_3.length c0_3, .string a0_4, .slice A0_5 l0_5.length c0_5, .int .i64 a0_6] 37 (0, 0)) (by (with_reducible repeat (first | refine blk_drewN ?_ _ | refine blk_drew ?_ | refine blk_alloc ?_ _)); exact BK350.out)) : gb351 ≠ gb350)); clear BK350; clear HB; have BK350 := n0_; have HB := n1_; have BK351 := n2_; have GW351 := n3_; have GE351 := n4_; have NB350_351 := n5_; have NB351_350 := n6_; clear n0_ n1_ n2_ n3_ n4_ n5_ n6_; clear hb hbox hg; have hnb21 := NB350_351.out; have hnc21 := NB351_350.out; have hcz22_0 : w20.cell? ⟨gb350, 0, none⟩ = some (.int .i64 a0_0) := (blk_cell BK350.out 0).trans rfl; have hcz22_1 : w20.cell? ⟨gb350, 1, none⟩ = some (.slice A0_1 l0_1.length c0_1) := (blk_cell BK350.out 1).trans rfl; have hcz22_2 : w20.cell? ⟨gb350, 2, none⟩ = some (.string a0_2) := (blk_cell BK350.out 2).trans rfl; have hcz22_3 : w20.cell? ⟨gb350, 3, none⟩ = some (.slice A0_3 l0_3.length c0_3) := (blk_cell BK350.out 3).trans rfl; have hcz22_4 : w20.cell? ⟨gb350, 4, none⟩ = some (.string a0_4) := (blk_cell BK350.out 4).trans rfl; have hcz22_5 : w20.cell? ⟨gb350, 5, none⟩ = some (.slice A0_5 l0_5.length c0_5) := (blk_cell BK350.out 5).trans rfl; have hcz22_6 : w20.cell? ⟨gb350, 6, none⟩ = some (.int .i64 a0_6) := (blk_cell BK350.out 6).trans rfl; have hfz22_0 := blk_frozen BK350.out 0; have hfz22_1 := blk_frozen BK350.out 1; have hfz22_2 := blk_frozen BK350.out 2; have hfz22_3 := blk_frozen BK350.out 3; have hfz22_4 := blk_frozen BK350.out 4; have hfz22_5 := blk_frozen BK350.out 5; have hfz22_6 := blk_frozen BK350.out 6; have hcz23_0 : w20.cell? ⟨gb351, 0, none⟩ = some (.int .i64 a1_0) := (blk_cell BK351.out 0).trans rfl; have hcz23_1 : w20.cell? ⟨gb351, 1, none⟩ = some (.slice A1_1 l1_1.length c1_1) := (blk_cell BK351.out 1).trans rfl; have hcz23_2 : w20.cell? ⟨gb351, 2, none⟩ = some (.string a1_2) := (blk_cell BK351.out 2).trans rfl; have hcz23_3 : w20.cell? ⟨gb351, 3, none⟩ = some (.slice A1_3 l1_3.length c1_3) := (blk_cell BK351.out 3).trans rfl; have hcz23_4 : w20.cell? ⟨gb351, 4, none⟩ = some (.string a1_4) := (blk_cell BK351.out 4).trans rfl; have hcz23_5 : w20.cell? ⟨gb351, 5, none⟩ = some (.slice A1_5 l1_5.length c1_5) := (blk_cell BK351.out 5).trans rfl; have hcz23_6 : w20.cell? ⟨gb351, 6, none⟩ = some (.int .i64 a1_6) := (blk_cell BK351.out 6).trans rfl; have hfz23_0 := blk_frozen BK351.out 0; have hfz23_1 := blk_frozen BK351.out 1; have hfz23_2 := blk_frozen BK351.out 2; have hfz23_3 := blk_frozen BK351.out 3; have hfz23_4 := blk_frozen BK351.out 4; have hfz23_5 := blk_frozen BK351.out 5; have hfz23_6 := blk_frozen BK351.out 6) | ((with_reducible refine gate_callee (f := 20) rfl ?_); refine goesL_ (some 10) rfl rfl Tryd.func20 (by kernel_rfl) rfl #[.agg #[.string a0_2, .slice A0_3 l0_3.length c0_3], .agg #[.string a1_2, .slice A1_3 l1_3.length c1_3]] rfl (by (try simp only [List.map_toArray, List.map_cons, List.map_nil]); first | done | rfl | (simp only [List.length_drop, List.length_take]; rfl)) ?_; (with_reducible refine (warderref09_AlikePrinc.calls k a0_2 _ _ l0_3 a1_2 _ _ l1_3 true _ ?side1 ?side2 ?side3 ?side4 A3.out).mono ?_); (case side1 => repeat (first | exact (Kd.C_below HR0_3.out HB.out) | (with_reducible refine Kd.C_alloc ?_ _) | (with_reducible refine Kd.C_drewN ?_ _) | (with_reducible refine Kd.C_drew ?_))); (case side2 => exact HC0_3.out); (case side3 => repeat (first | exact (Kd.C_below HR1_3.out HB.out) | (with_reducible refine Kd.C_alloc ?_ _) | (with_reducible refine Kd.C_drewN ?_ _) | (with_reducible refine Kd.C_drew ?_))); (case side4 => exact HC1_3.out); rintro e w24 ⟨rfl, hb⟩; refine ⟨_, rfl, ?_⟩; have n0_ := Aside0.mk (blk_below (g := gb350) (o := .cells #[.int .i64 a0_0, .slice A0_1 l0_1.length c0_1, .string a0_2, .slice A0_3 l0_3.length c0_3, .string a0_4, .slice A0_5 l0_5.length c0_5, .int .i64 a0_6] 37 (0, 0)) (by (with_reducible repeat (first | refine blk_drewN ?_ _ | refine blk_drew ?_ | refine blk_alloc ?_ _)); exact BK350.out) hb); have n1_ := Aside0.mk (blk_below (g := gb351) (o := .cells #[.int .i64 a1_0, .slice A1_1 l1_1.length c1_1, .string a1_2, .slice A1_3 l1_3.length c1_3, .string a1_4, .slice A1_5 l1_5.length c1_5, .int .i64 a1_6] 37 (0, 0)) (by (with_reducible repeat (first | refine blk_drewN ?_ _ | refine blk_drew ?_ | refine blk_alloc ?_ _)); exact BK351.out) hb); have n2_ := Aside0.mk (below_step (by repeat (first | (with_reducible first | exact HB.out | apply below_alloc | apply pw_below_drewN | apply below_drew1 | refine below_set ?_ GE350.out | refine below_set ?_ GE351.out) | exact HB.out)) hb); clear BK350; clear BK351; clear HB; have BK350 := n0_; have BK351 := n1_; have HB := n2_; clear n0_ n1_ n2_; (try clear hb); (try clear hb2); (try clear hk); (try clear hi); have hcz25_0 : w24.cell? ⟨gb350, 0, none⟩ = some (.int .i64 a0_0) := (blk_cell BK350.out 0).trans rfl; have hcz25_1 : w24.cell? ⟨gb350, 1, none⟩ = some (.slice A0_1 l0_1.length c0_1) := (blk_cell BK350.out 1).trans rfl; have hcz25_2 : w24.cell? ⟨gb350, 2, none⟩ = some (.string a0_2) := (blk_cell BK350.out 2).trans rfl; have hcz25_3 : w24.cell? ⟨gb350, 3, none⟩ = some (.slice A0_3 l0_3.length c0_3) := (blk_cell BK350.out 3).trans rfl; have hcz25_4 : w24.cell? ⟨gb350, 4, none⟩ = some (.string a0_4) := (blk_cell BK350.out 4).trans rfl; have hcz25_5 : w24.cell? ⟨gb350, 5, none⟩ = some (.slice A0_5 l0_5.length c0_5) := (blk_cell BK350.out 5).trans rfl; have hcz25_6 : w24.cell? ⟨gb350, 6, none⟩ = some (.int .i64 a0_6) := (blk_cell BK350.out 6).trans rfl; have hfz25_0 := blk_frozen BK350.out 0; have hfz25_1 := blk_frozen BK350.out 1; have hfz25_2 := blk_frozen BK350.out 2; have hfz25_3 := blk_frozen BK350.out 3; have hfz25_4 := blk_frozen BK350.out 4; have hfz25_5 := blk_frozen BK350.out 5; have hfz25_6 := blk_frozen BK350.out 6; have hcz26_0 : w24.cell? ⟨gb351, 0, none⟩ = some (.int .i64 a1_0) := (blk_cell BK351.out 0).trans rfl; have hcz26_1 : w24.cell? ⟨gb351, 1, none⟩ = some (.slice A1_1 l1_1.length c1_1) := (blk_cell BK351.out 1).trans rfl; have hcz26_2 : w24.cell? ⟨gb351, 2, none⟩ = some (.string a1_2) := (blk_cell BK351.out 2).trans rfl; have hcz26_3 : w24.cell? ⟨gb351, 3, none⟩ = some (.slice A1_3 l1_3.length c1_3) := (blk_cell BK351.out 3).trans rfl; have hcz26_4 : w24.cell? ⟨gb351, 4, none⟩ = some (.string a1_4) := (blk_cell BK351.out 4).trans rfl; have hcz26_5 : w24.cell? ⟨gb351, 5, none⟩ = some (.slice A1_5 l1_5.length c1_5) := (blk_cell BK351.out 5).trans rfl; have hcz26_6 : w24.cell? ⟨gb351, 6, none⟩ = some (.int .i64 a1_6) := (blk_cell BK351.out 6).trans rfl; have hfz26_0 := blk_frozen BK351.out 0; have hfz26_1 := blk_frozen BK351.out 1; have hfz26_2 := blk_frozen BK351.out 2; have hfz26_3 := blk_frozen BK351.out 3; have hfz26_4 := blk_frozen BK351.out 4; have hfz26_5 := blk_frozen BK351.out 5; have hfz26_6 := blk_frozen BK351.out 6; have hcv27 := Kd.C_string (P := Tryd.prog) (A := A0_1) (c := c0_1) Tryd.underlying25 Tryd.underlying5 Tryd.underlying9 (Kd.C_below HR0_1.out HB.out); have hcv28 := Kd.C_string (P := Tryd.prog) (A := A1_1) (c := c1_1) Tryd.underlying25 Tryd.underlying5 Tryd.underlying9 (Kd.C_below HR1_1.out HB.out)))
    go_ret
    exact ⟨by first | rfl | (simp [errW_none, errW_some] <;> rfl) | (simp [*, errW_none, errW_some] <;> rfl), by repeat (first | (with_reducible first | exact HB.out | apply below_alloc | apply pw_below_drewN | apply below_drew1 | refine below_set ?_ GE350.out | refine below_set ?_ GE351.out) | exact HB.out)⟩
  ·rw [if_neg c5] at H
   have c5b0 : (a0_0 == a1_0) = false := beq_eq_false_iff_ne.mpr c5
   have c5b1 : (a0_0 != a1_0) = true := bne_iff_ne.mpr c5
   obtain rfl := Option.some.inj H
   go_enter Tryd.func11, Tryd.ntmps11
   go_wp2_with (first | ((with_reducible refine gate_dst (N := 2) rfl ?_); refine box_event ?hg (N := 2) ?hd (cs := #[.int .i64 a0_0, .slice A0_1 l0_1.length c0_1, .string a0_2, .slice A0_3 l0_3.length c0_3, .string a0_4, .slice A0_5 l0_5.length c0_5, .int .i64 a0_6]) (t := 37) ?hr ?_; (case hd => rfl); (case hg => rfl); (case hr => first | (go_simp; done) | (go_simp; rfl)); intro gb350 hg w29 hbox hb; have n0_ := Aside0.mk (below_step (by repeat (first | (with_reducible first | exact HB.out | apply below_alloc | apply pw_below_drewN | apply below_drew1) | exact HB.out)) hb); have n1_ := Aside0.mk (hbox); have n2_ := Aside0.mk ((by rw [hg]; exact (below_size (by repeat (first | (with_reducible first | exact HB.out | apply below_alloc | apply pw_below_drewN | apply below_drew1) | exact HB.out))) : w.heap.size ≤ gb350)); have n3_ := Aside0.mk ((by rw [hg]; exact (below_size (by repeat (first | (with_reducible first | exact HB.out | apply below_alloc | apply pw_below_drewN | apply below_drew1) | exact HB.out))) : w.heap.size ≤ gb350)); clear HB; have HB := n0_; have BK350 := n1_; have GW350 := n2_; have GE350 := n3_; clear n0_ n1_ n2_ n3_; clear hb hbox hg) | ((with_reducible refine gate_dst (N := 3) rfl ?_); refine box_event ?hg (N := 3) ?hd (cs := #[.int .i64 a1_0, .slice A1_1 l1_1.length c1_1, .string a1_2, .slice A1_3 l1_3.length c1_3, .string a1_4, .slice A1_5 l1_5.length c1_5, .int .i64 a1_6]) (t := 37) ?hr ?_; (case hd => rfl); (case hg => rfl); (case hr => first | (go_simp; done) | (go_simp; rfl)); intro gb351 hg w30 hbox hb; have n0_ := Aside0.mk (blk_below (g := gb350) (o := .cells #[.int .i64 a0_0, .slice A0_1 l0_1.length c0_1, .string a0_2, .slice A0_3 l0_3.length c0_3, .string a0_4, .slice A0_5 l0_5.length c0_5, .int .i64 a0_6] 37 (0, 0)) (by (with_reducible repeat (first | refine blk_drewN ?_ _ | refine blk_drew ?_ | refine blk_alloc ?_ _)); exact BK350.out) hb); have n1_ := Aside0.mk (below_step (by repeat (first | (with_reducible first | exact HB.out | apply below_alloc | apply pw_below_drewN | apply below_drew1 | refine below_set ?_ GE350.out) | exact HB.out)) hb); have n2_ := Aside0.mk (hbox); have n3_ := Aside0.mk ((by rw [hg]; exact (below_size (by repeat (first | (with_reducible first | exact HB.out | apply below_alloc | apply pw_below_drewN | apply below_drew1 | refine below_set ?_ GE350.out) | exact HB.out))) : w.heap.size ≤ gb351)); have n4_ := Aside0.mk ((by rw [hg]; exact (below_size (by repeat (first | (with_reducible first | exact HB.out | apply below_alloc | apply pw_below_drewN | apply below_drew1 | refine below_set ?_ GE350.out) | exact HB.out))) : w.heap.size ≤ gb351)); have n5_ := Aside0.mk ((by rw [hg]; exact Nat.ne_of_lt (blk_lt (g := gb350) (o := .cells #[.int .i64 a0_0, .slice A0_1 l0_1.length c0_1, .string a0_2, .slice A0_3 l0_3.length c0_3, .string a0_4, .slice A0_5 l0_5.length c0_5, .int .i64 a0_6] 37 (0, 0)) (by (with_reducible repeat (first | refine blk_drewN ?_ _ | refine blk_drew ?_ | refine blk_alloc ?_ _)); exact BK350.out)) : gb350 ≠ gb351)); have n6_ := Aside0.mk ((by rw [hg]; exact Nat.ne_of_gt (blk_lt (g := gb350) (o := .cells #[.int .i64 a0_0, .slice A0_1 l0_1.length c0_1, .string a0_2, .slice A0_3 l0_3.length c0_3, .string a0_4, .slice A0_5 l0_5.length c0_5, .int .i64 a0_6] 37 (0, 0)) (by (with_reducible repeat (first | refine blk_drewN ?_ _ | refine blk_drew ?_ | refine blk_alloc ?_ _)); exact BK350.out)) : gb351 ≠ gb350)); clear BK350; clear HB; have BK350 := n0_; have HB := n1_; have BK351 := n2_; have GW351 := n3_; have GE351 := n4_; have NB350_351 := n5_; have NB351_350 := n6_; clear n0_ n1_ n2_ n3_ n4_ n5_ n6_; clear hb hbox hg; have hnb31 := NB350_351.out; have hnc31 := NB351_350.out; have hcz32_0 : w30.cell? ⟨gb350, 0, none⟩ = some (.int .i64 a0_0) := (blk_cell BK350.out 0).trans rfl; have hcz32_1 : w30.cell? ⟨gb350, 1, none⟩ = some (.slice A0_1 l0_1.length c0_1) := (blk_cell BK350.out 1).trans rfl; have hcz32_2 : w30.cell? ⟨gb350, 2, none⟩ = some (.string a0_2) := (blk_cell BK350.out 2).trans rfl; have hcz32_3 : w30.cell? ⟨gb350, 3, none⟩ = some (.slice A0_3 l0_3.length c0_3) := (blk_cell BK350.out 3).trans rfl; have hcz32_4 : w30.cell? ⟨gb350, 4, none⟩ = some (.string a0_4) := (blk_cell BK350.out 4).trans rfl; have hcz32_5 : w30.cell? ⟨gb350, 5, none⟩ = some (.slice A0_5 l0_5.length c0_5) := (blk_cell BK350.out 5).trans rfl; have hcz32_6 : w30.cell? ⟨gb350, 6, none⟩ = some (.int .i64 a0_6) := (blk_cell BK350.out 6).trans rfl; have hfz32_0 := blk_frozen BK350.out 0; have hfz32_1 := blk_frozen BK350.out 1; have hfz32_2 := blk_frozen BK350.out 2; have hfz32_3 := blk_frozen BK350.out 3; have hfz32_4 := blk_frozen BK350.out 4; have hfz32_5 := blk_frozen BK350.out 5; have hfz32_6 := blk_frozen BK350.out 6; have hcz33_0 : w30.cell? ⟨gb351, 0, none⟩ = some (.int .i64 a1_0) := (blk_cell BK351.out 0).trans rfl; have hcz33_1 : w30.cell? ⟨gb351, 1, none⟩ = some (.slice A1_1 l1_1.length c1_1) := (blk_cell BK351.out 1).trans rfl; have hcz33_2 : w30.cell? ⟨gb351, 2, none⟩ = some (.string a1_2) := (blk_cell BK351.out 2).trans rfl; have hcz33_3 : w30.cell? ⟨gb351, 3, none⟩ = some (.slice A1_3 l1_3.length c1_3) := (blk_cell BK351.out 3).trans rfl; have hcz33_4 : w30.cell? ⟨gb351, 4, none⟩ = some (.string a1_4) := (blk_cell BK351.out 4).trans rfl; have hcz33_5 : w30.cell? ⟨gb351, 5, none⟩ = some (.slice A1_5 l1_5.length c1_5) := (blk_cell BK351.out 5).trans rfl; have hcz33_6 : w30.cell? ⟨gb351, 6, none⟩ = some (.int .i64 a1_6) := (blk_cell BK351.out 6).trans rfl; have hfz33_0 := blk_frozen BK351.out 0; have hfz33_1 := blk_frozen BK351.out 1; have hfz33_2 := blk_frozen BK351.out 2; have hfz33_3 := blk_frozen BK351.out 3; have hfz33_4 := blk_frozen BK351.out 4; have hfz33_5 := blk_frozen BK351.out 5; have hfz33_6 := blk_frozen BK351.out 6) | ((with_reducible refine gate_callee (f := 20) rfl ?_); refine goesL_ (some 10) rfl rfl Tryd.func20 (by kernel_rfl) rfl #[.agg #[.string a0_2, .slice A0_3 l0_3.length c0_3], .agg #[.string a1_2, .slice A1_3 l1_3.length c1_3]] rfl (by (try simp only [List.map_toArray, List.map_cons, List.map_nil]); first | done | rfl | (simp only [List.length_drop, List.length_take]; rfl)) ?_; (with_reducible refine (warderref09_AlikePrinc.calls k a0_2 _ _ l0_3 a1_2 _ _ l1_3 true _ ?side1 ?side2 ?side3 ?side4 A3.out).mono ?_); (case side1 => repeat (first | exact (Kd.C_below HR0_3.out HB.out) | (with_reducible refine Kd.C_alloc ?_ _) | (with_reducible refine Kd.C_drewN ?_ _) | (with_reducible refine Kd.C_drew ?_))); (case side2 => exact HC0_3.out); (case side3 => repeat (first | exact (Kd.C_below HR1_3.out HB.out) | (with_reducible refine Kd.C_alloc ?_ _) | (with_reducible refine Kd.C_drewN ?_ _) | (with_reducible refine Kd.C_drew ?_))); (case side4 => exact HC1_3.out); rintro e w34 ⟨rfl, hb⟩; refine ⟨_, rfl, ?_⟩; have n0_ := Aside0.mk (blk_below (g := gb350) (o := .cells #[.int .i64 a0_0, .slice A0_1 l0_1.length c0_1, .string a0_2, .slice A0_3 l0_3.length c0_3, .string a0_4, .slice A0_5 l0_5.length c0_5, .int .i64 a0_6] 37 (0, 0)) (by (with_reducible repeat (first | refine blk_drewN ?_ _ | refine blk_drew ?_ | refine blk_alloc ?_ _)); exact BK350.out) hb); have n1_ := Aside0.mk (blk_below (g := gb351) (o := .cells #[.int .i64 a1_0, .slice A1_1 l1_1.length c1_1, .string a1_2, .slice A1_3 l1_3.length c1_3, .string a1_4, .slice A1_5 l1_5.length c1_5, .int .i64 a1_6] 37 (0, 0)) (by (with_reducible repeat (first | refine blk_drewN ?_ _ | refine blk_drew ?_ | refine blk_alloc ?_ _)); exact BK351.out) hb); have n2_ := Aside0.mk (below_step (by repeat (first | (with_reducible first | exact HB.out | apply below_alloc | apply pw_below_drewN | apply below_drew1 | refine below_set ?_ GE350.out | refine below_set ?_ GE351.out) | exact HB.out)) hb); clear BK350; clear BK351; clear HB; have BK350 := n0_; have BK351 := n1_; have HB := n2_; clear n0_ n1_ n2_; (try clear hb); (try clear hb2); (try clear hk); (try clear hi); have hcz35_0 : w34.cell? ⟨gb350, 0, none⟩ = some (.int .i64 a0_0) := (blk_cell BK350.out 0).trans rfl; have hcz35_1 : w34.cell? ⟨gb350, 1, none⟩ = some (.slice A0_1 l0_1.length c0_1) := (blk_cell BK350.out 1).trans rfl; have hcz35_2 : w34.cell? ⟨gb350, 2, none⟩ = some (.string a0_2) := (blk_cell BK350.out 2).trans rfl; have hcz35_3 : w34.cell? ⟨gb350, 3, none⟩ = some (.slice A0_3 l0_3.length c0_3) := (blk_cell BK350.out 3).trans rfl; have hcz35_4 : w34.cell? ⟨gb350, 4, none⟩ = some (.string a0_4) := (blk_cell BK350.out 4).trans rfl; have hcz35_5 : w34.cell? ⟨gb350, 5, none⟩ = some (.slice A0_5 l0_5.length c0_5) := (blk_cell BK350.out 5).trans rfl; have hcz35_6 : w34.cell? ⟨gb350, 6, none⟩ = some (.int .i64 a0_6) := (blk_cell BK350.out 6).trans rfl; have hfz35_0 := blk_frozen BK350.out 0; have hfz35_1 := blk_frozen BK350.out 1; have hfz35_2 := blk_frozen BK350.out 2; have hfz35_3 := blk_frozen BK350.out 3; have hfz35_4 := blk_frozen BK350.out 4; have hfz35_5 := blk_frozen BK350.out 5; have hfz35_6 := blk_frozen BK350.out 6; have hcz36_0 : w34.cell? ⟨gb351, 0, none⟩ = some (.int .i64 a1_0) := (blk_cell BK351.out 0).trans rfl; have hcz36_1 : w34.cell? ⟨gb351, 1, none⟩ = some (.slice A1_1 l1_1.length c1_1) := (blk_cell BK351.out 1).trans rfl; have hcz36_2 : w34.cell? ⟨gb351, 2, none⟩ = some (.string a1_2) := (blk_cell BK351.out 2).trans rfl; have hcz36_3 : w34.cell? ⟨gb351, 3, none⟩ = some (.slice A1_3 l1_3.length c1_3) := (blk_cell BK351.out 3).trans rfl; have hcz36_4 : w34.cell? ⟨gb351, 4, none⟩ = some (.string a1_4) := (blk_cell BK351.out 4).trans rfl; have hcz36_5 : w34.cell? ⟨gb351, 5, none⟩ = some (.slice A1_5 l1_5.length c1_5) := (blk_cell BK351.out 5).trans rfl; have hcz36_6 : w34.cell? ⟨gb351, 6, none⟩ = some (.int .i64 a1_6) := (blk_cell BK351.out 6).trans rfl; have hfz36_0 := blk_frozen BK351.out 0; have hfz36_1 := blk_frozen BK351.out 1; have hfz36_2 := blk_frozen BK351.out 2; have hfz36_3 := blk_frozen BK351.out 3; have hfz36_4 := blk_frozen BK351.out 4; have hfz36_5 := blk_frozen BK351.out 5; have hfz36_6 := blk_frozen BK351.out 6))
   go_ret
   exact ⟨by first | rfl | (simp [errW_none, errW_some] <;> rfl) | (simp [*, errW_none, errW_some] <;> rfl), by repeat (first | (with_reducible first | exact HB.out | apply below_alloc | apply pw_below_drewN | apply below_drew1 | refine below_set ?_ GE350.out | refine below_set ?_ GE351.out) | exact HB.out)⟩
 ·replace c4 := Bool.eq_false_iff.mpr c4
  subst c4
  have H1 : (some false) = some r := by rw [if_neg (show ¬ (false = true) by decide)] at H; exact H
  clear H
  have H := H1
  clear H1
  obtain rfl := Option.some.inj H
  go_enter Tryd.func11, Tryd.ntmps11
  go_wp2_with (first | ((with_reducible refine gate_dst (N := 2) rfl ?_); refine box_event ?hg (N := 2) ?hd (cs := #[.int .i64 a0_0, .slice A0_1 l0_1.length c0_1, .string a0_2, .slice A0_3 l0_3.length c0_3, .string a0_4, .slice A0_5 l0_5.length c0_5, .int .i64 a0_6]) (t := 37) ?hr ?_; (case hd => rfl); (case hg => rfl); (case hr => first | (go_simp; done) | (go_simp; rfl)); intro gb350 hg w37 hbox hb; have n0_ := Aside0.mk (below_step (by repeat (first | (with_reducible first | exact HB.out | apply below_alloc | apply pw_below_drewN | apply below_drew1) | exact HB.out)) hb); have n1_ := Aside0.mk (hbox); have n2_ := Aside0.mk ((by rw [hg]; exact (below_size (by repeat (first | (with_reducible first | exact HB.out | apply below_alloc | apply pw_below_drewN | apply below_drew1) | exact HB.out))) : w.heap.size ≤ gb350)); have n3_ := Aside0.mk ((by rw [hg]; exact (below_size (by repeat (first | (with_reducible first | exact HB.out | apply below_alloc | apply pw_below_drewN | apply below_drew1) | exact HB.out))) : w.heap.size ≤ gb350)); clear HB; have HB := n0_; have BK350 := n1_; have GW350 := n2_; have GE350 := n3_; clear n0_ n1_ n2_ n3_; clear hb hbox hg) | ((with_reducible refine gate_dst (N := 3) rfl ?_); refine box_event ?hg (N := 3) ?hd (cs := #[.int .i64 a1_0, .slice A1_1 l1_1.length c1_1, .string a1_2, .slice A1_3 l1_3.length c1_3, .string a1_4, .slice A1_5 l1_5.length c1_5, .int .i64 a1_6]) (t := 37) ?hr ?_; (case hd => rfl); (case hg => rfl); (case hr => first | (go_simp; done) | (go_simp; rfl)); intro gb351 hg w38 hbox hb; have n0_ := Aside0.mk (blk_below (g := gb350) (o := .cells #[.int .i64 a0_0, .slice A0_1 l0_1.length c0_1, .string a0_2, .slice A0_3 l0_3.length c0_3, .string a0_4, .slice A0_5 l0_5.length c0_5, .int .i64 a0_6] 37 (0, 0)) (by (with_reducible repeat (first | refine blk_drewN ?_ _ | refine blk_drew ?_ | refine blk_alloc ?_ _)); exact BK350.out) hb); have n1_ := Aside0.mk (below_step (by repeat (first | (with_reducible first | exact HB.out | apply below_alloc | apply pw_below_drewN | apply below_drew1 | refine below_set ?_ GE350.out) | exact HB.out)) hb); have n2_ := Aside0.mk (hbox); have n3_ := Aside0.mk ((by rw [hg]; exact (below_size (by repeat (first | (with_reducible first | exact HB.out | apply below_alloc | apply pw_below_drewN | apply below_drew1 | refine below_set ?_ GE350.out) | exact HB.out))) : w.heap.size ≤ gb351)); have n4_ := Aside0.mk ((by rw [hg]; exact (below_size (by repeat (first | (with_reducible first | exact HB.out | apply below_alloc | apply pw_below_drewN | apply below_drew1 | refine below_set ?_ GE350.out) | exact HB.out))) : w.heap.size ≤ gb351)); have n5_ := Aside0.mk ((by rw [hg]; exact Nat.ne_of_lt (blk_lt (g := gb350) (o := .cells #[.int .i64 a0_0, .slice A0_1 l0_1.length c0_1, .string a0_2, .slice A0_3 l0_3.length c0_3, .string a0_4, .slice A0_5 l0_5.length c0_5, .int .i64 a0_6] 37 (0, 0)) (by (with_reducible repeat (first | refine blk_drewN ?_ _ | refine blk_drew ?_ | refine blk_alloc ?_ _)); exact BK350.out)) : gb350 ≠ gb351)); have n6_ := Aside0.mk ((by rw [hg]; exact Nat.ne_of_gt (blk_lt (g := gb350) (o := .cells #[.int .i64 a0_0, .slice A0_1 l0_1.length c0_1, .string a0_2, .slice A0_3 l0_3.length c0_3, .string a0_4, .slice A0_5 l0_5.length c0_5, .int .i64 a0_6] 37 (0, 0)) (by (with_reducible repeat (first | refine blk_drewN ?_ _ | refine blk_drew ?_ | refine blk_alloc ?_ _)); exact BK350.out)) : gb351 ≠ gb350)); clear BK350; clear HB; have BK350 := n0_; have HB := n1_; have BK351 := n2_; have GW351 := n3_; have GE351 := n4_; have NB350_351 := n5_; have NB351_350 := n6_; clear n0_ n1_ n2_ n3_ n4_ n5_ n6_; clear hb hbox hg; have hnb39 := NB350_351.out; have hnc39 := NB351_350.out; have hcz40_0 : w38.cell? ⟨gb350, 0, none⟩ = some (.int .i64 a0_0) := (blk_cell BK350.out 0).trans rfl; have hcz40_1 : w38.cell? ⟨gb350, 1, none⟩ = some (.slice A0_1 l0_1.length c0_1) := (blk_cell BK350.out 1).trans rfl; have hcz40_2 : w38.cell? ⟨gb350, 2, none⟩ = some (.string a0_2) := (blk_cell BK350.out 2).trans rfl; have hcz40_3 : w38.cell? ⟨gb350, 3, none⟩ = some (.slice A0_3 l0_3.length c0_3) := (blk_cell BK350.out 3).trans rfl; have hcz40_4 : w38.cell? ⟨gb350, 4, none⟩ = some (.string a0_4) := (blk_cell BK350.out 4).trans rfl; have hcz40_5 : w38.cell? ⟨gb350, 5, none⟩ = some (.slice A0_5 l0_5.length c0_5) := (blk_cell BK350.out 5).trans rfl; have hcz40_6 : w38.cell? ⟨gb350, 6, none⟩ = some (.int .i64 a0_6) := (blk_cell BK350.out 6).trans rfl; have hfz40_0 := blk_frozen BK350.out 0; have hfz40_1 := blk_frozen BK350.out 1; have hfz40_2 := blk_frozen BK350.out 2; have hfz40_3 := blk_frozen BK350.out 3; have hfz40_4 := blk_frozen BK350.out 4; have hfz40_5 := blk_frozen BK350.out 5; have hfz40_6 := blk_frozen BK350.out 6; have hcz41_0 : w38.cell? ⟨gb351, 0, none⟩ = some (.int .i64 a1_0) := (blk_cell BK351.out 0).trans rfl; have hcz41_1 : w38.cell? ⟨gb351, 1, none⟩ = some (.slice A1_1 l1_1.length c1_1) := (blk_cell BK351.out 1).trans rfl; have hcz41_2 : w38.cell? ⟨gb351, 2, none⟩ = some (.string a1_2) := (blk_cell BK351.out 2).trans rfl; have hcz41_3 : w38.cell? ⟨gb351, 3, none⟩ = some (.slice A1_3 l1_3.length c1_3) := (blk_cell BK351.out 3).trans rfl; have hcz41_4 : w38.cell? ⟨gb351, 4, none⟩ = some (.string a1_4) := (blk_cell BK351.out 4).trans rfl; have hcz41_5 : w38.cell? ⟨gb351, 5, none⟩ = some (.slice A1_5 l1_5.length c1_5) := (blk_cell BK351.out 5).trans rfl; have hcz41_6 : w38.cell? ⟨gb351, 6, none⟩ = some (.int .i64 a1_6) := (blk_cell BK351.out 6).trans rfl; have hfz41_0 := blk_frozen BK351.out 0; have hfz41_1 := blk_frozen BK351.out 1; have hfz41_2 := blk_frozen BK351.out 2; have hfz41_3 := blk_frozen BK351.out 3; have hfz41_4 := blk_frozen BK351.out 4; have hfz41_5 := blk_frozen BK351.out 5; have hfz41_6 := blk_frozen BK351.out 6) | ((with_reducible refine gate_callee (f := 20) rfl ?_); refine goesL_ (some 10) rfl rfl Tryd.func20 (by kernel_rfl) rfl #[.agg #[.string a0_2, .slice A0_3 l0_3.length c0_3], .agg #[.string a1_2, .slice A1_3 l1_3.length c1_3]] rfl (by (try simp only [List.map_toArray, List.map_cons, List.map_nil]); first | done | rfl | (simp only [List.length_drop, List.length_take]; rfl)) ?_; (with_reducible refine (warderref09_AlikePrinc.calls k a0_2 _ _ l0_3 a1_2 _ _ l1_3 false _ ?side1 ?side2 ?side3 ?side4 A3.out).mono ?_); (case side1 => repeat (first | exact (Kd.C_below HR0_3.out HB.out) | (with_reducible refine Kd.C_alloc ?_ _) | (with_reducible refine Kd.C_drewN ?_ _) | (with_reducible refine Kd.C_drew ?_))); (case side2 => exact HC0_3.out); (case side3 => repeat (first | exact (Kd.C_below HR1_3.out HB.out) | (with_reducible refine Kd.C_alloc ?_ _) | (with_reducible refine Kd.C_drewN ?_ _) | (with_reducible refine Kd.C_drew ?_))); (case side4 => exact HC1_3.out); rintro e w42 ⟨rfl, hb⟩; refine ⟨_, rfl, ?_⟩; have n0_ := Aside0.mk (blk_below (g := gb350) (o := .cells #[.int .i64 a0_0, .slice A0_1 l0_1.length c0_1, .string a0_2, .slice A0_3 l0_3.length c0_3, .string a0_4, .slice A0_5 l0_5.length c0_5, .int .i64 a0_6] 37 (0, 0)) (by (with_reducible repeat (first | refine blk_drewN ?_ _ | refine blk_drew ?_ | refine blk_alloc ?_ _)); exact BK350.out) hb); have n1_ := Aside0.mk (blk_below (g := gb351) (o := .cells #[.int .i64 a1_0, .slice A1_1 l1_1.length c1_1, .string a1_2, .slice A1_3 l1_3.length c1_3, .string a1_4, .slice A1_5 l1_5.length c1_5, .int .i64 a1_6] 37 (0, 0)) (by (with_reducible repeat (first | refine blk_drewN ?_ _ | refine blk_drew ?_ | refine blk_alloc ?_ _)); exact BK351.out) hb); have n2_ := Aside0.mk (below_step (by repeat (first | (with_reducible first | exact HB.out | apply below_alloc | apply pw_below_drewN | apply below_drew1 | refine below_set ?_ GE350.out | refine below_set ?_ GE351.out) | exact HB.out)) hb); clear BK350; clear BK351; clear HB; have BK350 := n0_; have BK351 := n1_; have HB := n2_; clear n0_ n1_ n2_; (try clear hb); (try clear hb2); (try clear hk); (try clear hi)))
  go_ret
  exact ⟨by first | rfl | (simp [errW_none, errW_some] <;> rfl) | (simp [*, errW_none, errW_some] <;> rfl), by repeat (first | (with_reducible first | exact HB.out | apply below_alloc | apply pw_below_drewN | apply below_drew1 | refine below_set ?_ GE350.out | refine below_set ?_ GE351.out) | exact HB.out)⟩
end Go.Proofs.YtncanijjnhkgbaaDoor.PMsgsUnlike
namespace Go.Proofs.YtncanijjnhkgbaaDoor.PMsgsUnlike
open Go.RowKit Go.Proofs.YtncanijjnhkgbaaDoorW.PrintWords Go.Proofs.YtncanijjnhkgbaaDoorW.PrintLast Go.Proofs.YtncanijjnhkgbaaDoorW.PrintMore
theorem ba_ext {s s' : ByteArray} (h : s.toList = s'.toList) : s = s' := by
 rw [Lib.toList_data, Lib.toList_data] at h
 obtain ⟨a⟩ := s
 obtain ⟨b⟩ := s'
 have : a = b := by simpa using h
 rw [this]
theorem rd_str (l : List ByteArray) (i : Nat) (h : i < l.length) : rdOf ByteArray.empty l (i : Int) = l[i] := by
 unfold rdOf
 rw [Int.toNat_natCast, List.getD_eq_getElem?_getD, List.getElem?_eq_getElem h]
 rfl
theorem alike_loop (r r' : ByteArray) (l l' : List ByteArray) (hl : l.length = l'.length) (hm : l.length ≤ 1048576) :
  ∀ (e i : Nat), i + e = l.length → (∀ q (h1 : q < i) (h2 : q < l.length) (h3 : q < l'.length), l[q] = l'[q]) →
   Ev (fun k => warderref09_AlikePrinc.l0 k (i : Int) r l r' l') (decide (l = l'))
 | 0, i, hi, hq => by
  refine Ev.step ?_
  simp only [warderref09_AlikePrinc.l0]
  refine Ev.neg (by omega) (Ev.pure ?_)
  rw [decide_eq_true]
  exact List.ext_getElem hl (fun q h1 h2 => hq q (by omega) h1 h2)
 | e + 1, i, hi, hq => by
  refine Ev.step ?_
  simp only [warderref09_AlikePrinc.l0]
  refine Ev.pos (by omega) (Ev.pos (by omega) (Ev.pos (by omega) ?_))
  rw [rd_str l i (by omega), rd_str l' i (by omega)]
  by_cases h : l[i]'(by omega) = l'[i]'(by omega)
  ·refine Ev.pos (by rw [h]) ?_
   have e2 : wrap64 ((i : Int) + 1) = ((i + 1 : Nat) : Int) := by rw [w64 (by omega) (by omega)]; omega
   rw [e2]
   exact alike_loop r r' l l' hl hm e (i + 1) (by omega) (fun q h1 h2 h3 => by
    by_cases hj : q = i
    ·subst hj; exact h
    ·exact hq q (by omega) h2 h3)
  ·refine Ev.neg (fun he => h (ba_ext he)) (Ev.pure ?_)
   rw [decide_eq_false]
   rintro rfl
   exact h rfl
theorem alike_some (r r' : ByteArray) (l l' : List ByteArray) (hm : l.length ≤ 1048576) :
  Ev (fun k => warderref09_AlikePrinc.f k r l r' l') (decide (r = r' ∧ l = l')) := by
 unfold warderref09_AlikePrinc.f
 by_cases h : r = r'
 ·refine Ev.pos (by rw [h]) ?_
  by_cases hl : l.length = l'.length
  ·have e : ((l.length : Int) != (l'.length : Int)) = false := by rw [hl]; simp
   rw [e]
   refine Ev.step ?_
   simp only [warderref09_AlikePrinc.j0]
   refine Ev.neg (by decide) ?_
   have := alike_loop r r' l l' hl hm l.length 0 (by omega) (fun q h1 => absurd h1 (Nat.not_lt_zero _))
   rw [show decide (r = r' ∧ l = l') = decide (l = l') by simp [h]]
   exact this
  ·have e : ((l.length : Int) != (l'.length : Int)) = true := bne_iff_ne.2 (by omega)
   rw [e]
   refine Ev.step ?_
   simp only [warderref09_AlikePrinc.j0]
   refine Ev.pos trivial (Ev.pure ?_)
   rw [decide_eq_false]
   rintro ⟨_, rfl⟩
   exact hl rfl
 ·refine Ev.neg (fun he => h (ba_ext he)) ?_
  refine Ev.step ?_
  simp only [warderref09_AlikePrinc.j0]
  refine Ev.pos trivial (Ev.pure ?_)
  rw [decide_eq_false]
  exact fun h2 => h h2.1
open Classical in
theorem same_some (v v' : S37) (hv : Small v) (hb : IsB v'.f1) :
  Ev (fun k => warderref18_Same.f k v.f0 v.f1 v.f2.f0 v.f2.f1 v.f3.f0.f0 v.f3.f0.f1 v.f3.f1 v'.f0 v'.f1 v'.f2.f0 v'.f2.f1 v'.f3.f0.f0 v'.f3.f0.f1 v'.f3.f1) (decide (v = v')) := by
 unfold warderref18_Same.f
 refine Ev.bind (alike_some _ _ _ _ hv.princ.len) ?_
 by_cases h1 : v.f2.f0 = v'.f2.f0 ∧ v.f2.f1 = v'.f2.f1
 ·refine Ev.pos (decide_eq_true h1) ?_
  by_cases h2 : v.f0 = v'.f0
  ·refine Ev.pos h2 ?_
   by_cases h3 : v.f1 = v'.f1
   ·refine Ev.pos (by rw [h3]) ?_
    unfold warderref17_Same.f
    by_cases h4 : v.f3.f1 = v'.f3.f1
    ·refine Ev.bind (Ev.pos h4 (Ev.bind (alike_some _ _ _ _ hv.server.len) (Ev.pure rfl))) (Ev.pure ?_)
     congr 1
     rw [decide_eq_decide]
     exact ⟨fun h => val_ext h2 h3 h1.1 h1.2 h.1 h.2 h4, fun h => by rw [h]; exact ⟨rfl, rfl⟩⟩
    ·refine Ev.bind (Ev.neg h4 (Ev.pure rfl)) (Ev.pure ?_)
     rw [decide_eq_false]
     exact fun h => h4 (by rw [h])
   ·refine Ev.neg (fun he => h3 (strOf_inj hv.isB hb he)) (Ev.pure ?_)
    rw [decide_eq_false]
    exact fun h => h3 (by rw [h])
  ·refine Ev.neg h2 (Ev.pure ?_)
   rw [decide_eq_false]
   exact fun h => h2 (by rw [h])
 ·refine Ev.neg (by rw [decide_eq_true_eq]; exact h1) (Ev.pure ?_)
  rw [decide_eq_false]
  exact fun h => h1 (by rw [h]; exact ⟨rfl, rfl⟩)
end Go.Proofs.YtncanijjnhkgbaaDoor.PMsgsUnlike
namespace Go.Proofs.YtncanijjnhkgbaaDoor.PMsgsUnlike
open Go.RowKit Go.Proofs.YtncanijjnhkgbaaDoorW.PrintWords Go.Proofs.YtncanijjnhkgbaaDoorW.PrintLast Go.Proofs.YtncanijjnhkgbaaDoorW.PrintMore
attribute [local go_sem] max2_int min2_int max_two min_two max_three min_three max_four min_four
set_option linter.unusedVariables false
set_option linter.unusedSimpArgs false
noncomputable def warderref18_SameList.l0 : Nat → List (S37) → List (S37) → Int → Option (Bool)
 | 0, _, _, _ => none
 | k + 1, x0, x1, x5 => if x5 < (x0.length : Int) then (if 0 ≤ x5 then (if x5 < (x1.length : Int) then ((warderref18_Same.f k ((rd_T37 x0 x5).f0) ((rd_T37 x0 x5).f1) ((rd_T37 x0 x5).f2.f0) ((rd_T37 x0 x5).f2.f1) ((rd_T37 x0 x5).f3.f0.f0) ((rd_T37 x0 x5).f3.f0.f1) ((rd_T37 x0 x5).f3.f1) ((rd_T37 x1 x5).f0) ((rd_T37 x1 x5).f1) ((rd_T37 x1 x5).f2.f0) ((rd_T37 x1 x5).f2.f1) ((rd_T37 x1 x5).f3.f0.f0) ((rd_T37 x1 x5).f3.f0.f1) ((rd_T37 x1 x5).f3.f1)).bind fun t356 => (if t356 = true then (warderref18_SameList.l0 k x0 x1 (wrap64 (x5 + 1))) else (some false))) else (none)) else (none)) else (some true)
noncomputable def warderref18_SameList.f (k : Nat) (l0 : List (S37)) (l1 : List (S37)) : Option (Bool) := if (l0.length : Int) = (l1.length : Int) then (warderref18_SameList.l0 k l0 l1 0) else (some false)
theorem warderref18_SameList.mono_l : ∀ k, (∀ y0 y1 y2, LeO (warderref18_SameList.l0 k y0 y1 y2) (warderref18_SameList.l0 (k + 1) y0 y1 y2))
 | 0 => fun _ _ _ r h => by simp [warderref18_SameList.l0] at h
 | k + 1 => by
  have ih0 := warderref18_SameList.mono_l k
  ·intro y0 y1 y2
   unfold warderref18_SameList.l0
   repeat' first
   | (with_reducible exact ih0 _ _ _)
   | (with_reducible exact warderref18_Same.mono _ _ _ _ _ _ _ _ _ _ _ _ _ _ _)
   | (with_reducible exact LeO.refl _)
   | (with_reducible exact LeO.none _)
   | (with_reducible refine LeO.ite ?_ ?_)
   | (with_reducible refine LeO.bind ?_ (fun _ => ?_))
   | exact ih0 _ _ _
   | exact warderref18_Same.mono _ _ _ _ _ _ _ _ _ _ _ _ _ _ _
   | exact LeO.none _
   | refine LeO.ite ?_ ?_
   | refine LeO.bind ?_ (fun _ => ?_)
theorem warderref18_SameList.mono : ∀ a0 a1 k, LeO (warderref18_SameList.f k a0 a1) (warderref18_SameList.f (k + 1) a0 a1) := by
 intro a0 a1 k
 have ih0 := warderref18_SameList.mono_l k
 unfold warderref18_SameList.f
 repeat' first
   | (with_reducible exact ih0 _ _ _)
   | (with_reducible exact warderref18_Same.mono _ _ _ _ _ _ _ _ _ _ _ _ _ _ _)
   | (with_reducible exact LeO.refl _)
   | (with_reducible exact LeO.none _)
   | (with_reducible refine LeO.ite ?_ ?_)
   | (with_reducible refine LeO.bind ?_ (fun _ => ?_))
   | exact ih0 _ _ _
   | exact warderref18_Same.mono _ _ _ _ _ _ _ _ _ _ _ _ _ _ _
   | exact LeO.none _
   | refine LeO.ite ?_ ?_
   | refine LeO.bind ?_ (fun _ => ?_)
def warderref18_SameList.T6 : Bool × List (List Nat × List Nat) := (true, [([], []), ([], []), ([0, 1], [0, 1]), ([2], [2]), ([], []), ([], []), ([4, 5], [4, 5]), ([6], [6]), ([3, 7], [3, 7]), ([8, 8, 0, 1, 2, 3, 4, 5, 6, 7, 8], [8])])
def warderref18_SameList.B6 : List Nat := [0, 0, 3, 7, 0, 0, 48, 112, 255, 511]
theorem warderref18_SameList.tab6 : rtab .any (opsOf Tryd.f6 6) = warderref18_SameList.T6 := by kernel_rfl
theorem warderref18_SameList.bits6 : waitsOk warderref18_SameList.T6.2 warderref18_SameList.B6 = true := by kernel_rfl
set_option maxHeartbeats 8000000 in
set_option maxRecDepth 100000 in
theorem warderref18_SameList.calls (k : Nat) (A0 : Option Addr) (c0 : Nat) (l0 : List (S37)) (A1 : Option Addr) (c1 : Nat) (l1 : List (S37)) (r : Bool) (w : World) (hr0 : Kd.C k37 w A0 l0.length l0) (hc0 : l0.length ≤ c0) (hr1 : Kd.C k37 w A1 l1.length l1) (hc1 : l1.length ≤ c1) (h : warderref18_SameList.f k l0 l1 = some r) :
  Calls Tryd.prog 6 #[.slice A0 l0.length c0, .slice A1 l1.length c1] w fun e w' => e = .returned (.bool r) ∧ Below w.heap.size w w' := by
 have hu37 := Tryd.underlying37
 have HR0 := Aside0.mk hr0
 have HC0 := Aside0.mk hc0
 clear hr0 hc0
 have HR1 := Aside0.mk hr1
 have HC1 := Aside0.mk hc1
 clear hr1 hc1
 have HB := Aside0.mk (Below.refl w.heap.size w)
 have H : (if (l0.length : Int) = (l1.length : Int) then (warderref18_SameList.l0 k l0 l1 0) else (some false)) = some r := h
 clear h
 by_cases c3 : (l0.length : Int) = (l1.length : Int)
 ·rw [if_pos c3] at H
  have c3b0 : ((l0.length : Int) == (l1.length : Int)) = true := beq_iff_eq.mpr c3
  have c3b1 : ((l0.length : Int) != (l1.length : Int)) = false := bne_eq_false_iff_eq.mpr c3
  have c3b2 : (l0.length == l1.length) = true := by first | simpa using c3 | (simp at c3 ⊢; omega)
  clear c3
  have H' := Aside0.mk H
  clear H
  go_enter Tryd.func6, Tryd.ntmps6
  go_wp2
  go_loopg [5] k (fun kq v5 w' => ∃ (x5_1 : Int), v5 = .int .i64 x5_1 ∧ Aside0 (warderref18_SameList.l0 kq l0 l1 x5_1 = some r) ∧ Aside0 (kq ≤ k) ∧ Aside0 (Below w.heap.size w w'))
  case atStart => exact ⟨(0), (by first | rfl | (simp; done) | (simp [*]; done)), H', ⟨Nat.le_refl _⟩, ⟨by repeat (first | (with_reducible first | exact HB.out | apply below_alloc | apply pw_below_drewN | apply below_drew1) | exact HB.out)⟩⟩
  case round =>
   clear H'
   try clear c1
   try clear p2
   try clear c3
   try clear c3b0
   try clear c3b1
   try clear c3b2
   obtain ⟨x5_1, rfl, HA, HK1, HB⟩ := hrel
   cases gk with
   | zero => exact absurd HA.out (by simp [warderref18_SameList.l0])
   | succ k1 =>
    have H := HA.out
    clear HA
    simp only [warderref18_SameList.l0] at H
    by_cases c4 : x5_1 < (l0.length : Int)
    ·rw [if_pos c4] at H
     have c4b0 : decide (x5_1 < (l0.length : Int)) = true := decide_eq_true c4
     clear c4
     by_cases c5 : 0 ≤ x5_1
     ·rw [if_pos c5] at H
      have c5b0 : decide (0 ≤ x5_1) = true := decide_eq_true c5
      clear c5
      by_cases c6 : x5_1 < (l1.length : Int)
      ·rw [if_pos c6] at H
       have c6b0 : decide (x5_1 < (l1.length : Int)) = true := decide_eq_true c6
       clear c6
       replace H := Option.bind_eq_some_iff.mp H
       obtain ⟨t356, A70, H⟩ := H
       replace H : (if t356 = true then (warderref18_SameList.l0 k1 l0 l1 (wrap64 (x5_1 + 1))) else (some false)) = some r := H
       have A7 := Aside0.mk A70
       clear A70
       by_cases c8 : t356 = true
       ·subst c8
        have H1 : (warderref18_SameList.l0 k1 l0 l1 (wrap64 (x5_1 + 1))) = some r := by rw [if_pos rfl] at H; exact H
        clear H
        have H := H1
        clear H1
        have H' := Aside0.mk H
        clear H
        try go_wp2
        have n0_ := Aside0.mk (below_drew1 HB.out)
        clear HB
        have HB := n0_
        clear n0_
        have p354 : 0 ≤ (x5_1 : Int) := of_decide_eq_true (by first | (with_reducible assumption) | assumption)
        have q354 : x5_1 < (l0.length : Int) := of_decide_eq_true (by first | (with_reducible assumption) | assumption)
        obtain ⟨ad354, A354_1, c354_1, A354_3, c354_3, A354_5, c354_5, e354, hx354_0, hx354_1, hx354_2, hx354_3, hx354_4, hx354_5, hx354_6, hl354_1, hi354_1, hl354_3, hi354_3, hl354_5, hi354_5⟩ := at_T37 HR0.out x5_1 p354 q354
        have hw354_6 := hx354_6
        have hw354_5 := hx354_5
        have hw354_4 := hx354_4
        have hw354_3 := hx354_3
        have hw354_2 := hx354_2
        have hw354_1 := hx354_1
        have hw354_0 := hx354_0
        cases e354
        replace hx354_0 := (HB.out.cell (World.block_lt_of_cell? w _ hx354_0)).trans hx354_0
        replace hx354_1 := (HB.out.cell (World.block_lt_of_cell? w _ hx354_1)).trans hx354_1
        replace hx354_2 := (HB.out.cell (World.block_lt_of_cell? w _ hx354_2)).trans hx354_2
        replace hx354_3 := (HB.out.cell (World.block_lt_of_cell? w _ hx354_3)).trans hx354_3
        replace hx354_4 := (HB.out.cell (World.block_lt_of_cell? w _ hx354_4)).trans hx354_4
        replace hx354_5 := (HB.out.cell (World.block_lt_of_cell? w _ hx354_5)).trans hx354_5
        replace hx354_6 := (HB.out.cell (World.block_lt_of_cell? w _ hx354_6)).trans hx354_6
        have HR354_1 := Aside0.mk hi354_1
        have HC354_1 := Aside0.mk hl354_1
        clear hi354_1 hl354_1
        have HR354_3 := Aside0.mk hi354_3
        have HC354_3 := Aside0.mk hl354_3
        clear hi354_3 hl354_3
        have HR354_5 := Aside0.mk hi354_5
        have HC354_5 := Aside0.mk hl354_5
        clear hi354_5 hl354_5
        replace p354 := eq_true p354
        replace q354 := eq_true q354
        have p355 : 0 ≤ (x5_1 : Int) := of_decide_eq_true (by first | (with_reducible assumption) | assumption)
        have q355 : x5_1 < (l1.length : Int) := of_decide_eq_true (by first | (with_reducible assumption) | assumption)
        obtain ⟨ad355, A355_1, c355_1, A355_3, c355_3, A355_5, c355_5, e355, hx355_0, hx355_1, hx355_2, hx355_3, hx355_4, hx355_5, hx355_6, hl355_1, hi355_1, hl355_3, hi355_3, hl355_5, hi355_5⟩ := at_T37 HR1.out x5_1 p355 q355
        have hw355_6 := hx355_6
        have hw355_5 := hx355_5
        have hw355_4 := hx355_4
        have hw355_3 := hx355_3
        have hw355_2 := hx355_2
        have hw355_1 := hx355_1
        have hw355_0 := hx355_0
        cases e355
        replace hx355_0 := (HB.out.cell (World.block_lt_of_cell? w _ hx355_0)).trans hx355_0
        replace hx355_1 := (HB.out.cell (World.block_lt_of_cell? w _ hx355_1)).trans hx355_1
        replace hx355_2 := (HB.out.cell (World.block_lt_of_cell? w _ hx355_2)).trans hx355_2
        replace hx355_3 := (HB.out.cell (World.block_lt_of_cell? w _ hx355_3)).trans hx355_3
        replace hx355_4 := (HB.out.cell (World.block_lt_of_cell? w _ hx355_4)).trans hx355_4
        replace hx355_5 := (HB.out.cell (World.block_lt_of_cell? w _ hx355_5)).trans hx355_5
        replace hx355_6 := (HB.out.cell (World.block_lt_of_cell? w _ hx355_6)).trans hx355_6
        have HR355_1 := Aside0.mk hi355_1
        have HC355_1 := Aside0.mk hl355_1
        clear hi355_1 hl355_1
        have HR355_3 := Aside0.mk hi355_3
        have HC355_3 := Aside0.mk hl355_3
        clear hi355_3 hl355_3
        have HR355_5 := Aside0.mk hi355_5
        have HC355_5 := Aside0.mk hl355_5
        clear hi355_5 hl355_5
        replace p355 := eq_true p355
        replace q355 := eq_true q355
        refine start_ (n := 10) (S := fun w' => w'.cell? (ad354.add ((x5_1).toNat * 7)) = some (.int .i64 ((rd_T37 l0 x5_1).f0)) ∧ w'.cell? ⟨(ad354.add ((x5_1).toNat * 7)).block, (ad354.add ((x5_1).toNat * 7)).off + 1, none⟩ = some (.slice A354_1 ((rd_T37 l0 x5_1).f1).length c354_1) ∧ w'.cell? ⟨(ad354.add ((x5_1).toNat * 7)).block, (ad354.add ((x5_1).toNat * 7)).off + 2, none⟩ = some (.string ((rd_T37 l0 x5_1).f2.f0)) ∧ w'.cell? ⟨(ad354.add ((x5_1).toNat * 7)).block, (ad354.add ((x5_1).toNat * 7)).off + 3, none⟩ = some (.slice A354_3 ((rd_T37 l0 x5_1).f2.f1).length c354_3) ∧ w'.cell? ⟨(ad354.add ((x5_1).toNat * 7)).block, (ad354.add ((x5_1).toNat * 7)).off + 4, none⟩ = some (.string ((rd_T37 l0 x5_1).f3.f0.f0)) ∧ w'.cell? ⟨(ad354.add ((x5_1).toNat * 7)).block, (ad354.add ((x5_1).toNat * 7)).off + 5, none⟩ = some (.slice A354_5 ((rd_T37 l0 x5_1).f3.f0.f1).length c354_5) ∧ w'.cell? ⟨(ad354.add ((x5_1).toNat * 7)).block, (ad354.add ((x5_1).toNat * 7)).off + 6, none⟩ = some (.int .i64 ((rd_T37 l0 x5_1).f3.f1)) ∧ w'.cell? (ad355.add ((x5_1).toNat * 7)) = some (.int .i64 ((rd_T37 l1 x5_1).f0)) ∧ w'.cell? ⟨(ad355.add ((x5_1).toNat * 7)).block, (ad355.add ((x5_1).toNat * 7)).off + 1, none⟩ = some (.slice A355_1 ((rd_T37 l1 x5_1).f1).length c355_1) ∧ w'.cell? ⟨(ad355.add ((x5_1).toNat * 7)).block, (ad355.add ((x5_1).toNat * 7)).off + 2, none⟩ = some (.string ((rd_T37 l1 x5_1).f2.f0)) ∧ w'.cell? ⟨(ad355.add ((x5_1).toNat * 7)).block, (ad355.add ((x5_1).toNat * 7)).off + 3, none⟩ = some (.slice A355_3 ((rd_T37 l1 x5_1).f2.f1).length c355_3) ∧ w'.cell? ⟨(ad355.add ((x5_1).toNat * 7)).block, (ad355.add ((x5_1).toNat * 7)).off + 4, none⟩ = some (.string ((rd_T37 l1 x5_1).f3.f0.f0)) ∧ w'.cell? ⟨(ad355.add ((x5_1).toNat * 7)).block, (ad355.add ((x5_1).toNat * 7)).off + 5, none⟩ = some (.slice A355_5 ((rd_T37 l1 x5_1).f3.f0.f1).length c355_5) ∧ w'.cell? ⟨(ad355.add ((x5_1).toNat * 7)).block, (ad355.add ((x5_1).toNat * 7)).off + 6, none⟩ = some (.int .i64 ((rd_T37 l1 x5_1).f3.f1))) (ds := []) #[false, false, false, false, false, false, false, false, false, false] (by kernel_rfl) rfl rfl ⟨((HB.out.cell (World.block_lt_of_cell? w _ hw354_0)).trans hw354_0), ((HB.out.cell (World.block_lt_of_cell? w _ hw354_1)).trans hw354_1), ((HB.out.cell (World.block_lt_of_cell? w _ hw354_2)).trans hw354_2), ((HB.out.cell (World.block_lt_of_cell? w _ hw354_3)).trans hw354_3), ((HB.out.cell (World.block_lt_of_cell? w _ hw354_4)).trans hw354_4), ((HB.out.cell (World.block_lt_of_cell? w _ hw354_5)).trans hw354_5), ((HB.out.cell (World.block_lt_of_cell? w _ hw354_6)).trans hw354_6), ((HB.out.cell (World.block_lt_of_cell? w _ hw355_0)).trans hw355_0), ((HB.out.cell (World.block_lt_of_cell? w _ hw355_1)).trans hw355_1), ((HB.out.cell (World.block_lt_of_cell? w _ hw355_2)).trans hw355_2), ((HB.out.cell (World.block_lt_of_cell? w _ hw355_3)).trans hw355_3), ((HB.out.cell (World.block_lt_of_cell? w _ hw355_4)).trans hw355_4), ((HB.out.cell (World.block_lt_of_cell? w _ hw355_5)).trans hw355_5), ((HB.out.cell (World.block_lt_of_cell? w _ hw355_6)).trans hw355_6)⟩ (fun hHeld => ?_); refine with_tabW warderref18_SameList.tab6 warderref18_SameList.bits6 (fun HT_ HW_ => ?_)
        generalize wr.drew = w9 at HB HR354_1 HR354_3 HR354_5 HR355_1 HR355_3 HR355_5 hx354_0 hx354_1 hx354_2 hx354_3 hx354_4 hx354_5 hx354_6 hx355_0 hx355_1 hx355_2 hx355_3 hx355_4 hx355_5 hx355_6 hHeld ⊢
        refine pure_ (i := 0) (N := some 18) (v := ?_) (a' := ?_) #[true, false, false, false, false, false, false, false, false, false] rfl rfl (any_of HT_.out (by kernel_rfl)) (fun _ _ _ h => h) (Or.inl ⟨by rfl, ?_⟩) ?_ ?_
        rotate_left
        ·intro w'
         go_simp
         with_reducible rfl
        rotate_left
        ·simp only [Act.put, List.setIfInBounds_toArray, List.set_cons_zero, List.set_cons_succ, i64_w, i32_w]
         rfl
        refine pure_ (i := 1) (N := some 19) (v := ?_) (a' := ?_) #[true, true, false, false, false, false, false, false, false, false] rfl rfl (any_of HT_.out (by kernel_rfl)) (fun _ _ _ h => h) (Or.inl ⟨by rfl, ?_⟩) ?_ ?_
        rotate_left
        ·intro w'
         go_simp
         with_reducible rfl
        rotate_left
        ·simp only [Act.put, List.setIfInBounds_toArray, List.set_cons_zero, List.set_cons_succ, i64_w, i32_w]
         rfl
        refine pure_ (i := 2) (N := some 20) (v := ?_) (a' := ?_) #[true, true, true, false, false, false, false, false, false, false] rfl rfl (any_of HT_.out (by kernel_rfl)) (fun _ _ _ h => h) (Or.inl ⟨by rfl, ?_⟩) ?_ ?_
        rotate_left
        ·intro w'
         go_simp
         with_reducible rfl
        rotate_left
        ·simp only [Act.put, List.setIfInBounds_toArray, List.set_cons_zero, List.set_cons_succ, i64_w, i32_w]
         rfl
        refine pure_ (i := 4) (N := some 22) (v := ?_) (a' := ?_) #[true, true, true, false, true, false, false, false, false, false] rfl rfl (any_of HT_.out (by kernel_rfl)) (fun _ _ _ h => h) (Or.inl ⟨by rfl, ?_⟩) ?_ ?_
        rotate_left
        ·intro w'
         go_simp
         with_reducible rfl
        rotate_left
        ·simp only [Act.put, List.setIfInBounds_toArray, List.set_cons_zero, List.set_cons_succ, i64_w, i32_w]
         rfl
        refine pure_ (i := 5) (N := some 23) (v := ?_) (a' := ?_) #[true, true, true, false, true, true, false, false, false, false] rfl rfl (any_of HT_.out (by kernel_rfl)) (fun _ _ _ h => h) (Or.inl ⟨by rfl, ?_⟩) ?_ ?_
        rotate_left
        ·intro w'
         go_simp
         with_reducible rfl
        rotate_left
        ·simp only [Act.put, List.setIfInBounds_toArray, List.set_cons_zero, List.set_cons_succ, i64_w, i32_w]
         rfl
        refine pure_ (i := 6) (N := some 24) (v := ?_) (a' := ?_) #[true, true, true, false, true, true, true, false, false, false] rfl rfl (any_of HT_.out (by kernel_rfl)) (fun _ _ _ h => h) (Or.inl ⟨by rfl, ?_⟩) ?_ ?_
        rotate_left
        ·intro w'
         go_simp
         with_reducible rfl
        rotate_left
        ·simp only [Act.put, List.setIfInBounds_toArray, List.set_cons_zero, List.set_cons_succ, i64_w, i32_w]
         rfl
        refine take_ (i := 3) (N := some 21) (v := ?_) (a' := ?_) #[true, true, true, true, true, true, true, false, false, false] rfl rfl (take_ofW HT_.out HW_.out (by kernel_rfl)) (fun _ _ _ h => h) (Or.inl ⟨by rfl, ?_⟩) hHeld ?_ ?_
        rotate_left
        ·rintro w' ⟨s0, s1, s2, s3, s4, s5, s6, s7, s8, s9, s10, s11, s12, s13⟩
         go_simp
         with_reducible rfl
        rotate_left
        ·simp only [Act.put, List.setIfInBounds_toArray, List.set_cons_zero, List.set_cons_succ, i64_w, i32_w]
         rfl
        refine take_ (i := 7) (N := some 25) (v := ?_) (a' := ?_) #[true, true, true, true, true, true, true, true, false, false] rfl rfl (take_ofW HT_.out HW_.out (by kernel_rfl)) (fun _ _ _ h => h) (Or.inl ⟨by rfl, ?_⟩) hHeld ?_ ?_
        rotate_left
        ·rintro w' ⟨s0, s1, s2, s3, s4, s5, s6, s7, s8, s9, s10, s11, s12, s13⟩
         go_simp
         with_reducible rfl
        rotate_left
        ·simp only [Act.put, List.setIfInBounds_toArray, List.set_cons_zero, List.set_cons_succ, i64_w, i32_w]
         rfl
        refine one_ (i := 8) (N := some 26) #[true, true, true, true, true, true, true, true, true, false] rfl rfl (one_of HT_.out (by kernel_rfl)) (by decide) (fun K hK => ?_)
        refine goes_ Tryd.func11 (by kernel_rfl) rfl #[.agg #[.int .i64 ((rd_T37 l0 x5_1).f0), .slice A354_1 ((rd_T37 l0 x5_1).f1).length c354_1, .string ((rd_T37 l0 x5_1).f2.f0), .slice A354_3 ((rd_T37 l0 x5_1).f2.f1).length c354_3, .string ((rd_T37 l0 x5_1).f3.f0.f0), .slice A354_5 ((rd_T37 l0 x5_1).f3.f0.f1).length c354_5, .int .i64 ((rd_T37 l0 x5_1).f3.f1)], .agg #[.int .i64 ((rd_T37 l1 x5_1).f0), .slice A355_1 ((rd_T37 l1 x5_1).f1).length c355_1, .string ((rd_T37 l1 x5_1).f2.f0), .slice A355_3 ((rd_T37 l1 x5_1).f2.f1).length c355_3, .string ((rd_T37 l1 x5_1).f3.f0.f0), .slice A355_5 ((rd_T37 l1 x5_1).f3.f0.f1).length c355_5, .int .i64 ((rd_T37 l1 x5_1).f3.f1)]] (by rfl) rfl rfl (by (try simp only [List.map_toArray, List.map_cons, List.map_nil]); first | done | rfl | (simp only [List.length_drop, List.length_take]; rfl)) ?_
        with_reducible refine (warderref18_Same.calls k1 ((rd_T37 l0 x5_1).f0) _ _ ((rd_T37 l0 x5_1).f1) ((rd_T37 l0 x5_1).f2.f0) _ _ ((rd_T37 l0 x5_1).f2.f1) ((rd_T37 l0 x5_1).f3.f0.f0) _ _ ((rd_T37 l0 x5_1).f3.f0.f1) ((rd_T37 l0 x5_1).f3.f1) ((rd_T37 l1 x5_1).f0) _ _ ((rd_T37 l1 x5_1).f1) ((rd_T37 l1 x5_1).f2.f0) _ _ ((rd_T37 l1 x5_1).f2.f1) ((rd_T37 l1 x5_1).f3.f0.f0) _ _ ((rd_T37 l1 x5_1).f3.f0.f1) ((rd_T37 l1 x5_1).f3.f1) true _ ?side1 ?side2 ?side3 ?side4 ?side5 ?side6 ?side7 ?side8 ?side9 ?side10 ?side11 ?side12 A7.out).mono ?_
        (case side1 => repeat (first | exact (Kd.C_below HR354_1.out HB.out) | (with_reducible refine Kd.C_alloc ?_ _) | (with_reducible refine Kd.C_drewN ?_ _) | (with_reducible refine Kd.C_drew ?_)))
        (case side2 => exact HC354_1.out)
        (case side3 => repeat (first | exact (Kd.C_below HR354_3.out HB.out) | (with_reducible refine Kd.C_alloc ?_ _) | (with_reducible refine Kd.C_drewN ?_ _) | (with_reducible refine Kd.C_drew ?_)))
        (case side4 => exact HC354_3.out)
        (case side5 => repeat (first | exact (Kd.C_below HR354_5.out HB.out) | (with_reducible refine Kd.C_alloc ?_ _) | (with_reducible refine Kd.C_drewN ?_ _) | (with_reducible refine Kd.C_drew ?_)))
        (case side6 => exact HC354_5.out)
        (case side7 => repeat (first | exact (Kd.C_below HR355_1.out HB.out) | (with_reducible refine Kd.C_alloc ?_ _) | (with_reducible refine Kd.C_drewN ?_ _) | (with_reducible refine Kd.C_drew ?_)))
        (case side8 => exact HC355_1.out)
        (case side9 => repeat (first | exact (Kd.C_below HR355_3.out HB.out) | (with_reducible refine Kd.C_alloc ?_ _) | (with_reducible refine Kd.C_drewN ?_ _) | (with_reducible refine Kd.C_drew ?_)))
        (case side10 => exact HC355_3.out)
        (case side11 => repeat (first | exact (Kd.C_below HR355_5.out HB.out) | (with_reducible refine Kd.C_alloc ?_ _) | (with_reducible refine Kd.C_drewN ?_ _) | (with_reducible refine Kd.C_drew ?_)))
        (case side12 => exact HC355_5.out)
        rintro e w10 ⟨rfl, hb⟩
        refine ⟨_, rfl, ?_⟩
        have n0_ := Aside0.mk (below_step (by repeat (first | (with_reducible first | exact HB.out | apply below_alloc | apply pw_below_drewN | apply below_drew1) | exact HB.out)) hb)
        clear HB
        have HB := n0_
        clear n0_
        (try clear hb)
        (try clear hb2)
        (try clear hk)
        (try clear hi)
        refine hK.out _ _ ⟨((HB.out.cell (World.block_lt_of_cell? w _ hw354_0)).trans hw354_0), ((HB.out.cell (World.block_lt_of_cell? w _ hw354_1)).trans hw354_1), ((HB.out.cell (World.block_lt_of_cell? w _ hw354_2)).trans hw354_2), ((HB.out.cell (World.block_lt_of_cell? w _ hw354_3)).trans hw354_3), ((HB.out.cell (World.block_lt_of_cell? w _ hw354_4)).trans hw354_4), ((HB.out.cell (World.block_lt_of_cell? w _ hw354_5)).trans hw354_5), ((HB.out.cell (World.block_lt_of_cell? w _ hw354_6)).trans hw354_6), ((HB.out.cell (World.block_lt_of_cell? w _ hw355_0)).trans hw355_0), ((HB.out.cell (World.block_lt_of_cell? w _ hw355_1)).trans hw355_1), ((HB.out.cell (World.block_lt_of_cell? w _ hw355_2)).trans hw355_2), ((HB.out.cell (World.block_lt_of_cell? w _ hw355_3)).trans hw355_3), ((HB.out.cell (World.block_lt_of_cell? w _ hw355_4)).trans hw355_4), ((HB.out.cell (World.block_lt_of_cell? w _ hw355_5)).trans hw355_5), ((HB.out.cell (World.block_lt_of_cell? w _ hw355_6)).trans hw355_6)⟩ (fun hHeld => ?_)
        clear hK K
        refine norm_ (a' := ?_) ?_ ?_
        rotate_left
        ·show Act.put _ (some 26) _ = _
         simp only [Act.put, List.setIfInBounds_toArray, List.set_cons_zero, List.set_cons_succ, i64_w, i32_w]
         rfl
        refine pure_ (i := 9) (N := some 6) (v := ?_) (a' := ?_) #[true, true, true, true, true, true, true, true, true, true] rfl rfl (any_of HT_.out (by kernel_rfl)) (fun _ _ _ h => h) (Or.inl ⟨by rfl, ?_⟩) ?_ ?_
        rotate_left
        ·intro w'
         go_simp
         with_reducible rfl
        rotate_left
        ·simp only [Act.put, List.setIfInBounds_toArray, List.set_cons_zero, List.set_cons_succ, i64_w, i32_w]
         rfl
        refine done_ (done_of HT_.out (by kernel_rfl)) ?_
        try go_wp2
        go_roundg k1
        case measure => have := HK1.out; omega
        case rel => exact ⟨(wrap64 (x5_1 + 1)), (by first | rfl | (simp; done) | (simp [*]; done)), H', ⟨by have := HK1.out; omega⟩, ⟨by repeat (first | (with_reducible first | exact HB.out | apply below_alloc | apply pw_below_drewN | apply below_drew1) | exact HB.out)⟩⟩
       ·replace c8 := Bool.eq_false_iff.mpr c8
        subst c8
        have H1 : (some false) = some r := by rw [if_neg (show ¬ (false = true) by decide)] at H; exact H
        clear H
        have H := H1
        clear H1
        obtain rfl := Option.some.inj H
        try go_wp2
        have n0_ := Aside0.mk (below_drew1 HB.out)
        clear HB
        have HB := n0_
        clear n0_
        have p354 : 0 ≤ (x5_1 : Int) := of_decide_eq_true (by first | (with_reducible assumption) | assumption)
        have q354 : x5_1 < (l0.length : Int) := of_decide_eq_true (by first | (with_reducible assumption) | assumption)
        obtain ⟨ad354, A354_1, c354_1, A354_3, c354_3, A354_5, c354_5, e354, hx354_0, hx354_1, hx354_2, hx354_3, hx354_4, hx354_5, hx354_6, hl354_1, hi354_1, hl354_3, hi354_3, hl354_5, hi354_5⟩ := at_T37 HR0.out x5_1 p354 q354
        have hw354_6 := hx354_6
        have hw354_5 := hx354_5
        have hw354_4 := hx354_4
        have hw354_3 := hx354_3
        have hw354_2 := hx354_2
        have hw354_1 := hx354_1
        have hw354_0 := hx354_0
        cases e354
        replace hx354_0 := (HB.out.cell (World.block_lt_of_cell? w _ hx354_0)).trans hx354_0
        replace hx354_1 := (HB.out.cell (World.block_lt_of_cell? w _ hx354_1)).trans hx354_1
        replace hx354_2 := (HB.out.cell (World.block_lt_of_cell? w _ hx354_2)).trans hx354_2
        replace hx354_3 := (HB.out.cell (World.block_lt_of_cell? w _ hx354_3)).trans hx354_3
        replace hx354_4 := (HB.out.cell (World.block_lt_of_cell? w _ hx354_4)).trans hx354_4
        replace hx354_5 := (HB.out.cell (World.block_lt_of_cell? w _ hx354_5)).trans hx354_5
        replace hx354_6 := (HB.out.cell (World.block_lt_of_cell? w _ hx354_6)).trans hx354_6
        have HR354_1 := Aside0.mk hi354_1
        have HC354_1 := Aside0.mk hl354_1
        clear hi354_1 hl354_1
        have HR354_3 := Aside0.mk hi354_3
        have HC354_3 := Aside0.mk hl354_3
        clear hi354_3 hl354_3
        have HR354_5 := Aside0.mk hi354_5
        have HC354_5 := Aside0.mk hl354_5
        clear hi354_5 hl354_5
        replace p354 := eq_true p354
        replace q354 := eq_true q354
        have p355 : 0 ≤ (x5_1 : Int) := of_decide_eq_true (by first | (with_reducible assumption) | assumption)
        have q355 : x5_1 < (l1.length : Int) := of_decide_eq_true (by first | (with_reducible assumption) | assumption)
        obtain ⟨ad355, A355_1, c355_1, A355_3, c355_3, A355_5, c355_5, e355, hx355_0, hx355_1, hx355_2, hx355_3, hx355_4, hx355_5, hx355_6, hl355_1, hi355_1, hl355_3, hi355_3, hl355_5, hi355_5⟩ := at_T37 HR1.out x5_1 p355 q355
        have hw355_6 := hx355_6
        have hw355_5 := hx355_5
        have hw355_4 := hx355_4
        have hw355_3 := hx355_3
        have hw355_2 := hx355_2
        have hw355_1 := hx355_1
        have hw355_0 := hx355_0
        cases e355
        replace hx355_0 := (HB.out.cell (World.block_lt_of_cell? w _ hx355_0)).trans hx355_0
        replace hx355_1 := (HB.out.cell (World.block_lt_of_cell? w _ hx355_1)).trans hx355_1
        replace hx355_2 := (HB.out.cell (World.block_lt_of_cell? w _ hx355_2)).trans hx355_2
        replace hx355_3 := (HB.out.cell (World.block_lt_of_cell? w _ hx355_3)).trans hx355_3
        replace hx355_4 := (HB.out.cell (World.block_lt_of_cell? w _ hx355_4)).trans hx355_4
        replace hx355_5 := (HB.out.cell (World.block_lt_of_cell? w _ hx355_5)).trans hx355_5
        replace hx355_6 := (HB.out.cell (World.block_lt_of_cell? w _ hx355_6)).trans hx355_6
        have HR355_1 := Aside0.mk hi355_1
        have HC355_1 := Aside0.mk hl355_1
        clear hi355_1 hl355_1
        have HR355_3 := Aside0.mk hi355_3
        have HC355_3 := Aside0.mk hl355_3
        clear hi355_3 hl355_3
        have HR355_5 := Aside0.mk hi355_5
        have HC355_5 := Aside0.mk hl355_5
        clear hi355_5 hl355_5
        replace p355 := eq_true p355
        replace q355 := eq_true q355
        refine start_ (n := 10) (S := fun w' => w'.cell? (ad354.add ((x5_1).toNat * 7)) = some (.int .i64 ((rd_T37 l0 x5_1).f0)) ∧ w'.cell? ⟨(ad354.add ((x5_1).toNat * 7)).block, (ad354.add ((x5_1).toNat * 7)).off + 1, none⟩ = some (.slice A354_1 ((rd_T37 l0 x5_1).f1).length c354_1) ∧ w'.cell? ⟨(ad354.add ((x5_1).toNat * 7)).block, (ad354.add ((x5_1).toNat * 7)).off + 2, none⟩ = some (.string ((rd_T37 l0 x5_1).f2.f0)) ∧ w'.cell? ⟨(ad354.add ((x5_1).toNat * 7)).block, (ad354.add ((x5_1).toNat * 7)).off + 3, none⟩ = some (.slice A354_3 ((rd_T37 l0 x5_1).f2.f1).length c354_3) ∧ w'.cell? ⟨(ad354.add ((x5_1).toNat * 7)).block, (ad354.add ((x5_1).toNat * 7)).off + 4, none⟩ = some (.string ((rd_T37 l0 x5_1).f3.f0.f0)) ∧ w'.cell? ⟨(ad354.add ((x5_1).toNat * 7)).block, (ad354.add ((x5_1).toNat * 7)).off + 5, none⟩ = some (.slice A354_5 ((rd_T37 l0 x5_1).f3.f0.f1).length c354_5) ∧ w'.cell? ⟨(ad354.add ((x5_1).toNat * 7)).block, (ad354.add ((x5_1).toNat * 7)).off + 6, none⟩ = some (.int .i64 ((rd_T37 l0 x5_1).f3.f1)) ∧ w'.cell? (ad355.add ((x5_1).toNat * 7)) = some (.int .i64 ((rd_T37 l1 x5_1).f0)) ∧ w'.cell? ⟨(ad355.add ((x5_1).toNat * 7)).block, (ad355.add ((x5_1).toNat * 7)).off + 1, none⟩ = some (.slice A355_1 ((rd_T37 l1 x5_1).f1).length c355_1) ∧ w'.cell? ⟨(ad355.add ((x5_1).toNat * 7)).block, (ad355.add ((x5_1).toNat * 7)).off + 2, none⟩ = some (.string ((rd_T37 l1 x5_1).f2.f0)) ∧ w'.cell? ⟨(ad355.add ((x5_1).toNat * 7)).block, (ad355.add ((x5_1).toNat * 7)).off + 3, none⟩ = some (.slice A355_3 ((rd_T37 l1 x5_1).f2.f1).length c355_3) ∧ w'.cell? ⟨(ad355.add ((x5_1).toNat * 7)).block, (ad355.add ((x5_1).toNat * 7)).off + 4, none⟩ = some (.string ((rd_T37 l1 x5_1).f3.f0.f0)) ∧ w'.cell? ⟨(ad355.add ((x5_1).toNat * 7)).block, (ad355.add ((x5_1).toNat * 7)).off + 5, none⟩ = some (.slice A355_5 ((rd_T37 l1 x5_1).f3.f0.f1).length c355_5) ∧ w'.cell? ⟨(ad355.add ((x5_1).toNat * 7)).block, (ad355.add ((x5_1).toNat * 7)).off + 6, none⟩ = some (.int .i64 ((rd_T37 l1 x5_1).f3.f1))) (ds := []) #[false, false, false, false, false, false, false, false, false, false] (by kernel_rfl) rfl rfl ⟨((HB.out.cell (World.block_lt_of_cell? w _ hw354_0)).trans hw354_0), ((HB.out.cell (World.block_lt_of_cell? w _ hw354_1)).trans hw354_1), ((HB.out.cell (World.block_lt_of_cell? w _ hw354_2)).trans hw354_2), ((HB.out.cell (World.block_lt_of_cell? w _ hw354_3)).trans hw354_3), ((HB.out.cell (World.block_lt_of_cell? w _ hw354_4)).trans hw354_4), ((HB.out.cell (World.block_lt_of_cell? w _ hw354_5)).trans hw354_5), ((HB.out.cell (World.block_lt_of_cell? w _ hw354_6)).trans hw354_6), ((HB.out.cell (World.block_lt_of_cell? w _ hw355_0)).trans hw355_0), ((HB.out.cell (World.block_lt_of_cell? w _ hw355_1)).trans hw355_1), ((HB.out.cell (World.block_lt_of_cell? w _ hw355_2)).trans hw355_2), ((HB.out.cell (World.block_lt_of_cell? w _ hw355_3)).trans hw355_3), ((HB.out.cell (World.block_lt_of_cell? w _ hw355_4)).trans hw355_4), ((HB.out.cell (World.block_lt_of_cell? w _ hw355_5)).trans hw355_5), ((HB.out.cell (World.block_lt_of_cell? w _ hw355_6)).trans hw355_6)⟩ (fun hHeld => ?_); refine with_tabW warderref18_SameList.tab6 warderref18_SameList.bits6 (fun HT_ HW_ => ?_)
        generalize wr.drew = w11 at HB HR354_1 HR354_3 HR354_5 HR355_1 HR355_3 HR355_5 hx354_0 hx354_1 hx354_2 hx354_3 hx354_4 hx354_5 hx354_6 hx355_0 hx355_1 hx355_2 hx355_3 hx355_4 hx355_5 hx355_6 hHeld ⊢
        refine pure_ (i := 0) (N := some 18) (v := ?_) (a' := ?_) #[true, false, false, false, false, false, false, false, false, false] rfl rfl (any_of HT_.out (by kernel_rfl)) (fun _ _ _ h => h) (Or.inl ⟨by rfl, ?_⟩) ?_ ?_
        rotate_left
        ·intro w'
         go_simp
         with_reducible rfl
        rotate_left
        ·simp only [Act.put, List.setIfInBounds_toArray, List.set_cons_zero, List.set_cons_succ, i64_w, i32_w]
         rfl
        refine pure_ (i := 1) (N := some 19) (v := ?_) (a' := ?_) #[true, true, false, false, false, false, false, false, false, false] rfl rfl (any_of HT_.out (by kernel_rfl)) (fun _ _ _ h => h) (Or.inl ⟨by rfl, ?_⟩) ?_ ?_
        rotate_left
        ·intro w'
         go_simp
         with_reducible rfl
        rotate_left
        ·simp only [Act.put, List.setIfInBounds_toArray, List.set_cons_zero, List.set_cons_succ, i64_w, i32_w]
         rfl
        refine pure_ (i := 2) (N := some 20) (v := ?_) (a' := ?_) #[true, true, true, false, false, false, false, false, false, false] rfl rfl (any_of HT_.out (by kernel_rfl)) (fun _ _ _ h => h) (Or.inl ⟨by rfl, ?_⟩) ?_ ?_
        rotate_left
        ·intro w'
         go_simp
         with_reducible rfl
        rotate_left
        ·simp only [Act.put, List.setIfInBounds_toArray, List.set_cons_zero, List.set_cons_succ, i64_w, i32_w]
         rfl
        refine pure_ (i := 4) (N := some 22) (v := ?_) (a' := ?_) #[true, true, true, false, true, false, false, false, false, false] rfl rfl (any_of HT_.out (by kernel_rfl)) (fun _ _ _ h => h) (Or.inl ⟨by rfl, ?_⟩) ?_ ?_
        rotate_left
        ·intro w'
         go_simp
         with_reducible rfl
        rotate_left
        ·simp only [Act.put, List.setIfInBounds_toArray, List.set_cons_zero, List.set_cons_succ, i64_w, i32_w]
         rfl
        refine pure_ (i := 5) (N := some 23) (v := ?_) (a' := ?_) #[true, true, true, false, true, true, false, false, false, false] rfl rfl (any_of HT_.out (by kernel_rfl)) (fun _ _ _ h => h) (Or.inl ⟨by rfl, ?_⟩) ?_ ?_
        rotate_left
        ·intro w'
         go_simp
         with_reducible rfl
        rotate_left
        ·simp only [Act.put, List.setIfInBounds_toArray, List.set_cons_zero, List.set_cons_succ, i64_w, i32_w]
         rfl
        refine pure_ (i := 6) (N := some 24) (v := ?_) (a' := ?_) #[true, true, true, false, true, true, true, false, false, false] rfl rfl (any_of HT_.out (by kernel_rfl)) (fun _ _ _ h => h) (Or.inl ⟨by rfl, ?_⟩) ?_ ?_
        rotate_left
        ·intro w'
         go_simp
         with_reducible rfl
        rotate_left
        ·simp only [Act.put, List.setIfInBounds_toArray, List.set_cons_zero, List.set_cons_succ, i64_w, i32_w]
         rfl
        refine take_ (i := 3) (N := some 21) (v := ?_) (a' := ?_) #[true, true, true, true, true, true, true, false, false, false] rfl rfl (take_ofW HT_.out HW_.out (by kernel_rfl)) (fun _ _ _ h => h) (Or.inl ⟨by rfl, ?_⟩) hHeld ?_ ?_
        rotate_left
        ·rintro w' ⟨s0, s1, s2, s3, s4, s5, s6, s7, s8, s9, s10, s11, s12, s13⟩
         go_simp
         with_reducible rfl
        rotate_left
        ·simp only [Act.put, List.setIfInBounds_toArray, List.set_cons_zero, List.set_cons_succ, i64_w, i32_w]
         rfl
        refine take_ (i := 7) (N := some 25) (v := ?_) (a' := ?_) #[true, true, true, true, true, true, true, true, false, false] rfl rfl (take_ofW HT_.out HW_.out (by kernel_rfl)) (fun _ _ _ h => h) (Or.inl ⟨by rfl, ?_⟩) hHeld ?_ ?_
        rotate_left
        ·rintro w' ⟨s0, s1, s2, s3, s4, s5, s6, s7, s8, s9, s10, s11, s12, s13⟩
         go_simp
         with_reducible rfl
        rotate_left
        ·simp only [Act.put, List.setIfInBounds_toArray, List.set_cons_zero, List.set_cons_succ, i64_w, i32_w]
         rfl
        refine one_ (i := 8) (N := some 26) #[true, true, true, true, true, true, true, true, true, false] rfl rfl (one_of HT_.out (by kernel_rfl)) (by decide) (fun K hK => ?_)
        refine goes_ Tryd.func11 (by kernel_rfl) rfl #[.agg #[.int .i64 ((rd_T37 l0 x5_1).f0), .slice A354_1 ((rd_T37 l0 x5_1).f1).length c354_1, .string ((rd_T37 l0 x5_1).f2.f0), .slice A354_3 ((rd_T37 l0 x5_1).f2.f1).length c354_3, .string ((rd_T37 l0 x5_1).f3.f0.f0), .slice A354_5 ((rd_T37 l0 x5_1).f3.f0.f1).length c354_5, .int .i64 ((rd_T37 l0 x5_1).f3.f1)], .agg #[.int .i64 ((rd_T37 l1 x5_1).f0), .slice A355_1 ((rd_T37 l1 x5_1).f1).length c355_1, .string ((rd_T37 l1 x5_1).f2.f0), .slice A355_3 ((rd_T37 l1 x5_1).f2.f1).length c355_3, .string ((rd_T37 l1 x5_1).f3.f0.f0), .slice A355_5 ((rd_T37 l1 x5_1).f3.f0.f1).length c355_5, .int .i64 ((rd_T37 l1 x5_1).f3.f1)]] (by rfl) rfl rfl (by (try simp only [List.map_toArray, List.map_cons, List.map_nil]); first | done | rfl | (simp only [List.length_drop, List.length_take]; rfl)) ?_
        with_reducible refine (warderref18_Same.calls k1 ((rd_T37 l0 x5_1).f0) _ _ ((rd_T37 l0 x5_1).f1) ((rd_T37 l0 x5_1).f2.f0) _ _ ((rd_T37 l0 x5_1).f2.f1) ((rd_T37 l0 x5_1).f3.f0.f0) _ _ ((rd_T37 l0 x5_1).f3.f0.f1) ((rd_T37 l0 x5_1).f3.f1) ((rd_T37 l1 x5_1).f0) _ _ ((rd_T37 l1 x5_1).f1) ((rd_T37 l1 x5_1).f2.f0) _ _ ((rd_T37 l1 x5_1).f2.f1) ((rd_T37 l1 x5_1).f3.f0.f0) _ _ ((rd_T37 l1 x5_1).f3.f0.f1) ((rd_T37 l1 x5_1).f3.f1) false _ ?side1 ?side2 ?side3 ?side4 ?side5 ?side6 ?side7 ?side8 ?side9 ?side10 ?side11 ?side12 A7.out).mono ?_
        (case side1 => repeat (first | exact (Kd.C_below HR354_1.out HB.out) | (with_reducible refine Kd.C_alloc ?_ _) | (with_reducible refine Kd.C_drewN ?_ _) | (with_reducible refine Kd.C_drew ?_)))
        (case side2 => exact HC354_1.out)
        (case side3 => repeat (first | exact (Kd.C_below HR354_3.out HB.out) | (with_reducible refine Kd.C_alloc ?_ _) | (with_reducible refine Kd.C_drewN ?_ _) | (with_reducible refine Kd.C_drew ?_)))
        (case side4 => exact HC354_3.out)
        (case side5 => repeat (first | exact (Kd.C_below HR354_5.out HB.out) | (with_reducible refine Kd.C_alloc ?_ _) | (with_reducible refine Kd.C_drewN ?_ _) | (with_reducible refine Kd.C_drew ?_)))
        (case side6 => exact HC354_5.out)
        (case side7 => repeat (first | exact (Kd.C_below HR355_1.out HB.out) | (with_reducible refine Kd.C_alloc ?_ _) | (with_reducible refine Kd.C_drewN ?_ _) | (with_reducible refine Kd.C_drew ?_)))
        (case side8 => exact HC355_1.out)
        (case side9 => repeat (first | exact (Kd.C_below HR355_3.out HB.out) | (with_reducible refine Kd.C_alloc ?_ _) | (with_reducible refine Kd.C_drewN ?_ _) | (with_reducible refine Kd.C_drew ?_)))
        (case side10 => exact HC355_3.out)
        (case side11 => repeat (first | exact (Kd.C_below HR355_5.out HB.out) | (with_reducible refine Kd.C_alloc ?_ _) | (with_reducible refine Kd.C_drewN ?_ _) | (with_reducible refine Kd.C_drew ?_)))
        (case side12 => exact HC355_5.out)
        rintro e w12 ⟨rfl, hb⟩
        refine ⟨_, rfl, ?_⟩
        have n0_ := Aside0.mk (below_step (by repeat (first | (with_reducible first | exact HB.out | apply below_alloc | apply pw_below_drewN | apply below_drew1) | exact HB.out)) hb)
        clear HB
        have HB := n0_
        clear n0_
        (try clear hb)
        (try clear hb2)
        (try clear hk)
        (try clear hi)
        refine hK.out _ _ ⟨((HB.out.cell (World.block_lt_of_cell? w _ hw354_0)).trans hw354_0), ((HB.out.cell (World.block_lt_of_cell? w _ hw354_1)).trans hw354_1), ((HB.out.cell (World.block_lt_of_cell? w _ hw354_2)).trans hw354_2), ((HB.out.cell (World.block_lt_of_cell? w _ hw354_3)).trans hw354_3), ((HB.out.cell (World.block_lt_of_cell? w _ hw354_4)).trans hw354_4), ((HB.out.cell (World.block_lt_of_cell? w _ hw354_5)).trans hw354_5), ((HB.out.cell (World.block_lt_of_cell? w _ hw354_6)).trans hw354_6), ((HB.out.cell (World.block_lt_of_cell? w _ hw355_0)).trans hw355_0), ((HB.out.cell (World.block_lt_of_cell? w _ hw355_1)).trans hw355_1), ((HB.out.cell (World.block_lt_of_cell? w _ hw355_2)).trans hw355_2), ((HB.out.cell (World.block_lt_of_cell? w _ hw355_3)).trans hw355_3), ((HB.out.cell (World.block_lt_of_cell? w _ hw355_4)).trans hw355_4), ((HB.out.cell (World.block_lt_of_cell? w _ hw355_5)).trans hw355_5), ((HB.out.cell (World.block_lt_of_cell? w _ hw355_6)).trans hw355_6)⟩ (fun hHeld => ?_)
        clear hK K
        refine norm_ (a' := ?_) ?_ ?_
        rotate_left
        ·show Act.put _ (some 26) _ = _
         simp only [Act.put, List.setIfInBounds_toArray, List.set_cons_zero, List.set_cons_succ, i64_w, i32_w]
         rfl
        refine pure_ (i := 9) (N := some 6) (v := ?_) (a' := ?_) #[true, true, true, true, true, true, true, true, true, true] rfl rfl (any_of HT_.out (by kernel_rfl)) (fun _ _ _ h => h) (Or.inl ⟨by rfl, ?_⟩) ?_ ?_
        rotate_left
        ·intro w'
         go_simp
         with_reducible rfl
        rotate_left
        ·simp only [Act.put, List.setIfInBounds_toArray, List.set_cons_zero, List.set_cons_succ, i64_w, i32_w]
         rfl
        refine done_ (done_of HT_.out (by kernel_rfl)) ?_
        try go_wp2
        go_ret
        exact ⟨by first | rfl | (simp [errW_none, errW_some] <;> rfl) | (simp [*, errW_none, errW_some] <;> rfl), by repeat (first | (with_reducible first | exact HB.out | apply below_alloc | apply pw_below_drewN | apply below_drew1) | exact HB.out)⟩
      ·rw [if_neg c6] at H
       exact absurd H (by simp)
     ·rw [if_neg c5] at H
      exact absurd H (by simp)
    ·rw [if_neg c4] at H
     have c4b0 : decide (x5_1 < (l0.length : Int)) = false := decide_eq_false c4
     clear c4
     obtain rfl := Option.some.inj H
     go_wp2
     go_ret
     exact ⟨by first | rfl | (simp [errW_none, errW_some] <;> rfl) | (simp [*, errW_none, errW_some] <;> rfl), by repeat (first | (with_reducible first | exact HB.out | apply below_alloc | apply pw_below_drewN | apply below_drew1) | exact HB.out)⟩
 ·rw [if_neg c3] at H
  have c3b0 : ((l0.length : Int) == (l1.length : Int)) = false := beq_eq_false_iff_ne.mpr c3
  have c3b1 : ((l0.length : Int) != (l1.length : Int)) = true := bne_iff_ne.mpr c3
  have c3b2 : (l0.length == l1.length) = false := by first | simpa using c3 | (simp at c3 ⊢; omega)
  obtain rfl := Option.some.inj H
  go_enter Tryd.func6, Tryd.ntmps6
  go_wp2
  go_ret
  exact ⟨by first | rfl | (simp [errW_none, errW_some] <;> rfl) | (simp [*, errW_none, errW_some] <;> rfl), by repeat (first | (with_reducible first | exact HB.out | apply below_alloc | apply pw_below_drewN | apply below_drew1) | exact HB.out)⟩
end Go.Proofs.YtncanijjnhkgbaaDoor.PMsgsUnlike
namespace Go.Proofs.YtncanijjnhkgbaaDoor.PMsgsUnlike
open Go.RowKit Go.Proofs.YtncanijjnhkgbaaDoorW.PrintWords Go.Proofs.YtncanijjnhkgbaaDoorW.PrintLast Go.Proofs.YtncanijjnhkgbaaDoorW.PrintMore
open Classical in
theorem samelist_loop (l l' : List (S37)) (hl : l.length = l'.length) (hm : l.length ≤ 1048576) (hs : ∀ v ∈ l, Small v) (hs' : ∀ v ∈ l', Small v) :
  ∀ (e i : Nat), i + e = l.length → (∀ q (h1 : q < i) (h2 : q < l.length) (h3 : q < l'.length), l[q] = l'[q]) →
   Ev (fun k => warderref18_SameList.l0 k l l' (i : Int)) (decide (l = l'))
 | 0, i, hi, hq => by
  refine Ev.step ?_
  simp only [warderref18_SameList.l0]
  refine Ev.neg (by omega) (Ev.pure ?_)
  rw [decide_eq_true]
  exact List.ext_getElem hl (fun q h1 h2 => hq q (by omega) h1 h2)
 | e + 1, i, hi, hq => by
  refine Ev.step ?_
  simp only [warderref18_SameList.l0]
  refine Ev.pos (by omega) (Ev.pos (by omega) (Ev.pos (by omega) ?_))
  rw [rd_part l i (by omega), rd_part l' i (by omega)]
  refine Ev.bind (same_some (l[i]'(by omega)) (l'[i]'(by omega)) (hs _ (List.getElem_mem _)) (hs' _ (List.getElem_mem _)).isB) ?_
  by_cases h : l[i]'(by omega) = l'[i]'(by omega)
  ·refine Ev.pos (decide_eq_true h) ?_
   have e2 : wrap64 ((i : Int) + 1) = ((i + 1 : Nat) : Int) := by rw [w64 (by omega) (by omega)]; omega
   rw [e2]
   exact samelist_loop l l' hl hm hs hs' e (i + 1) (by omega) (fun q h1 h2 h3 => by
    by_cases hj : q = i
    ·subst hj; exact h
    ·exact hq q (by omega) h2 h3)
  ·refine Ev.neg (by rw [decide_eq_true_eq]; exact h) (Ev.pure ?_)
   rw [decide_eq_false]
   rintro rfl
   exact h rfl
open Classical in
theorem samelist_some (l l' : List (S37)) (hm : l.length ≤ 1048576) (hs : ∀ v ∈ l, Small v) (hs' : ∀ v ∈ l', Small v) : Ev (fun k => warderref18_SameList.f k l l') (decide (l = l')) := by
 unfold warderref18_SameList.f
 by_cases hl : l.length = l'.length
 ·exact Ev.pos (by omega) (samelist_loop l l' hl hm hs hs' l.length 0 (by omega) (fun q h1 => absurd h1 (Nat.not_lt_zero _)))
 ·refine Ev.neg (by omega) (Ev.pure ?_)
  rw [decide_eq_false]
  rintro rfl
  exact hl rfl
theorem put_ok {a0 : Int} {l : List (S37)} (h : (putR a0 l).2 = 0) :
  (shapeO a0).1 ≠ 0 ∧ l.length = (shapeO a0).2.length ∧ allOk (shapeO a0).2 l = true ∧ (putR a0 l).1 = enc (msgN (shapeO a0).1 (shapeO a0).2 l) := by
 unfold putR at h ⊢
 by_cases h0 : (shapeO a0).1 = 0
 ·rw [if_pos h0] at h; cases h
 ·rw [if_neg h0] at h ⊢
  by_cases hl : l.length = (shapeO a0).2.length
  ·rw [if_pos hl] at h ⊢
   by_cases ho : allOk (shapeO a0).2 l = true
   ·rw [if_pos ho]
    exact ⟨h0, hl, ho, rfl⟩
   ·rw [if_neg ho] at h; cases h
  ·rw [if_neg hl] at h; cases h
open Classical in
theorem unlike_eq (a0 : Int) (l l' : List (S37)) (hs : ∀ v ∈ l, Small v) (hs' : ∀ v ∈ l', Small v) (h1 : (putR a0 l).2 = 0) (h2 : (putR a0 l').2 = 0) : ((strOfNums (putR a0 l).1).toList == (strOfNums (putR a0 l').1).toList) = decide (l = l') := by
 obtain ⟨h0, hl, ho, e1⟩ := put_ok h1
 obtain ⟨_, hl', ho', e2⟩ := put_ok h2
 obtain ⟨ht, hc⟩ := shape_tag a0 h0
 have f1 := msg_fine _ _ l ht hc hl hs ho
 have f2 := msg_fine _ _ l' ht hc hl' hs' ho'
 rw [e1, e2, Bool.eq_iff_iff, beq_iff_eq, decide_eq_true_eq]
 constructor
 ·intro he
  have he := strOf_inj (enc_isB f1) (enc_isB f2) he
  have hn := (enc_inj f1 f2 [] [] (by rw [he])).1
  unfold msgN at hn
  obtain ⟨_, _, hn⟩ := node_eq hn
  simp only [List.cons.injEq, and_true] at hn
  obtain ⟨_, _, hn⟩ := node_eq hn
  apply List.ext_getElem (by omega)
  intro i i1 i2
  have hz : (List.zipWith partN (shapeO a0).2 l)[i]? = (List.zipWith partN (shapeO a0).2 l')[i]? := by rw [hn]
  rw [List.getElem?_eq_getElem (by rw [List.length_zipWith]; omega), List.getElem?_eq_getElem (by rw [List.length_zipWith]; omega)] at hz
  have hz := Option.some.inj hz
  rw [List.getElem_zipWith, List.getElem_zipWith] at hz
  exact part_inj _ _ _ (hs _ (List.getElem_mem _)) (hs' _ (List.getElem_mem _)) (allOk_at ho i (by omega) i1) (allOk_at ho' i (by omega) i2) hz
 ·rintro rfl
  rfl
end Go.Proofs.YtncanijjnhkgbaaDoor.PMsgsUnlike
namespace Go.Proofs.YtncanijjnhkgbaaDoor.PMsgsUnlike
open Go.RowKit Go.Proofs.YtncanijjnhkgbaaDoorW.PrintWords Go.Proofs.YtncanijjnhkgbaaDoorW.PrintLast Go.Proofs.YtncanijjnhkgbaaDoorW.PrintMore
theorem size_nil (s : ByteArray) : (s.size = 0) = (s.toList = []) := by
 rw [ByteArray.toList_eq]
 apply propext
 constructor
 ·intro h
  exact List.eq_nil_of_length_eq_zero (by simpa using h)
 ·intro h
  have := congrArg List.length h
  simpa using this
set_option maxRecDepth 100000 in
set_option maxHeartbeats 4000000 in
theorem blank_105 (i : Int) (Ab : Option Addr) (cb : Nat) (b : List Int) (r : ByteArray) (Al : Option Addr) (cl : Nat) (l : List ByteArray) (sr : ByteArray) (As : Option Addr) (cs : Nat) (sl : List ByteArray) (e : Int) (w : World) :
  Calls Tryd.prog 14 #[.agg #[.int .i64 i, .slice Ab b.length cb, .string r, .slice Al l.length cl, .string sr, .slice As sl.length cs, .int .i64 e], .int .u8 105] w fun e' w' => e' = .returned (.bool (blankB i b r l sr sl e 105)) ∧ Below w.heap.size w w' := by
 simp only [blankB, princB, size_nil]
 generalize b.length = nb
 generalize l.length = nl
 generalize sl.length = ns
 go_enter Tryd.func14, Tryd.ntmps14
 go_wp2
 all_goals (go_ret; refine ⟨?_, by repeat (first | exact Below.refl _ _ | apply below_alloc)⟩; show Ending.returned (Value.bool _) = _; congr 2; simp [*])
set_option maxRecDepth 100000 in
set_option maxHeartbeats 4000000 in
theorem blank_111 (i : Int) (Ab : Option Addr) (cb : Nat) (b : List Int) (r : ByteArray) (Al : Option Addr) (cl : Nat) (l : List ByteArray) (sr : ByteArray) (As : Option Addr) (cs : Nat) (sl : List ByteArray) (e : Int) (w : World) :
  Calls Tryd.prog 14 #[.agg #[.int .i64 i, .slice Ab b.length cb, .string r, .slice Al l.length cl, .string sr, .slice As sl.length cs, .int .i64 e], .int .u8 111] w fun e' w' => e' = .returned (.bool (blankB i b r l sr sl e 111)) ∧ Below w.heap.size w w' := by
 simp only [blankB, princB, size_nil]
 generalize b.length = nb
 generalize l.length = nl
 generalize sl.length = ns
 go_enter Tryd.func14, Tryd.ntmps14
 go_wp2
 all_goals (go_ret; refine ⟨?_, by repeat (first | exact Below.refl _ _ | apply below_alloc)⟩; show Ending.returned (Value.bool _) = _; congr 2; simp [*])
set_option maxRecDepth 100000 in
set_option maxHeartbeats 4000000 in
theorem blank_112 (i : Int) (Ab : Option Addr) (cb : Nat) (b : List Int) (r : ByteArray) (Al : Option Addr) (cl : Nat) (l : List ByteArray) (sr : ByteArray) (As : Option Addr) (cs : Nat) (sl : List ByteArray) (e : Int) (w : World) :
  Calls Tryd.prog 14 #[.agg #[.int .i64 i, .slice Ab b.length cb, .string r, .slice Al l.length cl, .string sr, .slice As sl.length cs, .int .i64 e], .int .u8 112] w fun e' w' => e' = .returned (.bool (blankB i b r l sr sl e 112)) ∧ Below w.heap.size w w' := by
 simp only [blankB, princB, size_nil]
 generalize b.length = nb
 generalize l.length = nl
 generalize sl.length = ns
 go_enter Tryd.func14, Tryd.ntmps14
 go_wp2
 all_goals (go_ret; refine ⟨?_, by repeat (first | exact Below.refl _ _ | apply below_alloc)⟩; show Ending.returned (Value.bool _) = _; congr 2; simp [*])
set_option maxRecDepth 100000 in
set_option maxHeartbeats 4000000 in
theorem blank_107 (i : Int) (Ab : Option Addr) (cb : Nat) (b : List Int) (r : ByteArray) (Al : Option Addr) (cl : Nat) (l : List ByteArray) (sr : ByteArray) (As : Option Addr) (cs : Nat) (sl : List ByteArray) (e : Int) (w : World) :
  Calls Tryd.prog 14 #[.agg #[.int .i64 i, .slice Ab b.length cb, .string r, .slice Al l.length cl, .string sr, .slice As sl.length cs, .int .i64 e], .int .u8 107] w fun e' w' => e' = .returned (.bool (blankB i b r l sr sl e 107)) ∧ Below w.heap.size w w' := by
 simp only [blankB, princB, size_nil]
 generalize b.length = nb
 generalize l.length = nl
 generalize sl.length = ns
 go_enter Tryd.func14, Tryd.ntmps14
 go_wp2
 all_goals (go_ret; refine ⟨?_, by repeat (first | exact Below.refl _ _ | apply below_alloc)⟩; show Ending.returned (Value.bool _) = _; congr 2; simp [*])
end Go.Proofs.YtncanijjnhkgbaaDoor.PMsgsUnlike
namespace Go.Proofs.YtncanijjnhkgbaaDoor.PMsgsUnlike
open Go.RowKit Go.Proofs.YtncanijjnhkgbaaDoorW.PrintWords Go.Proofs.YtncanijjnhkgbaaDoorW.PrintLast Go.Proofs.YtncanijjnhkgbaaDoorW.PrintMore
theorem far3 {α : Type} {d : Kd α} {e base g : Nat} {W : World} {ok : Nat → Prop} {v : Value} {xs : List α} (h : Kd.V d e W base ok v xs) (hne : ∀ k, ok k → k ≠ g) (u0 u1 u2 : Value) : Kd.V d e (((W.setCell ⟨g, 0, none⟩ u0).setCell ⟨g, 1, none⟩ u1).setCell ⟨g, 2, none⟩ u2) base ok v xs :=
 Kd.V_far (Kd.V_far (Kd.V_far h hne u0) hne u1) hne u2
theorem set3 {g : Nat} {w W : World} (h : Below w.heap.size w W) (hg : w.heap.size ≤ g) (u0 u1 u2 : Value) : Below w.heap.size w (((W.setCell ⟨g, 0, none⟩ u0).setCell ⟨g, 1, none⟩ u1).setCell ⟨g, 2, none⟩ u2) :=
 below_set (below_set (below_set h hg) hg) hg
theorem put3 {g t : Nat} {W : World} {a b c : Value} (h : W.heap[g]? = some (.cells #[a, b, c] t)) (u0 u1 u2 : Value) : (((W.setCell ⟨g, 0, none⟩ u0).setCell ⟨g, 1, none⟩ u1).setCell ⟨g, 2, none⟩ u2).heap[g]? = some (.cells #[u0, u1, u2] t) :=
 blk_put (blk_put (blk_put h 0 u0 rfl) 1 u1 rfl) 2 u2 rfl
theorem off3 {g h t : Nat} {W : World} {cs : Array Value} (hk : W.heap[g]? = some (.cells cs t)) (hne : g ≠ h) (u0 u1 u2 : Value) : (((W.setCell ⟨h, 0, none⟩ u0).setCell ⟨h, 1, none⟩ u1).setCell ⟨h, 2, none⟩ u2).heap[g]? = some (.cells cs t) :=
 blk_far (blk_far (blk_far hk hne u0) hne u1) hne u2
def start3 (w : World) (bx : Array Value) : World := ((w.alloc (.cells bx 37)).alloc (.cells #[.int .u8 0, .slice none 0 0, .slice none 0 0] 45)).alloc (.cells #[.int .u8 0, .slice none 0 0, .slice none 0 0] 45)
theorem start3_size (w : World) (bx : Array Value) : (start3 w bx).heap.size = w.heap.size + 3 := by
 simp only [start3, World.alloc, Array.size_push]
theorem start3_below (w : World) (bx : Array Value) : Below w.heap.size w (start3 w bx) := below_alloc (below_alloc (below_alloc (Below.refl _ _) _) _) _
theorem start3_0 (w : World) (bx : Array Value) : (start3 w bx).heap[w.heap.size]? = some (.cells bx 37) := blk_alloc (blk_alloc (blk_new _ _) _) _
theorem start3_1 (w : World) (bx : Array Value) : (start3 w bx).heap[w.heap.size + 1]? = some (.cells #[.int .u8 0, .slice none 0 0, .slice none 0 0] 45) := by
 have h := blk_new (w.alloc (.cells bx 37)) (.cells #[.int .u8 0, .slice none 0 0, .slice none 0 0] 45)
 have h2 := blk_alloc h (.cells #[.int .u8 0, .slice none 0 0, .slice none 0 0] 45)
 simp only [start3, World.alloc, Array.size_push] at h2 ⊢
 exact h2
theorem start3_2 (w : World) (bx : Array Value) : (start3 w bx).heap[w.heap.size + 2]? = some (.cells #[.int .u8 0, .slice none 0 0, .slice none 0 0] 45) := by
 have h := blk_new ((w.alloc (.cells bx 37)).alloc (.cells #[.int .u8 0, .slice none 0 0, .slice none 0 0] 45)) (.cells #[.int .u8 0, .slice none 0 0, .slice none 0 0] 45)
 simp only [start3, World.alloc, Array.size_push] at h ⊢
 exact h
set_option maxHeartbeats 8000000 in
set_option maxRecDepth 100000 in
theorem state_int (T : Int) (body : List Int) (kids : List S45) (i : Int) (Ab : Option Addr) (cb : Nat) (b : List Int) (r : ByteArray) (Al : Option Addr) (cl : Nat) (l : List ByteArray) (sr : ByteArray) (As : Option Addr) (cs : Nat) (sl : List ByteArray) (e : Int) (w : World)
  (hN : ∀ W, Below w.heap.size w W → Calls Tryd.prog 13 #[.iface 2 (.int .i64 i)] W fun e' w' => ∃ v1 v2 : Value, e' = .returned (.tuple #[.agg #[.int .u8 T, v1, v2], .bool true]) ∧ Kd.V (Kd.int .u8) 5 w' W.heap.size (fun k => W.heap.size ≤ k) v1 body ∧ Kd.V k45 45 w' W.heap.size (fun k => W.heap.size ≤ k) v2 kids ∧ Below W.heap.size W w') :
  Calls Tryd.prog 9 #[anyV 0, .agg #[.int .i64 i, .slice Ab b.length cb, .string r, .slice Al l.length cl, .string sr, .slice As sl.length cs, .int .i64 e]] w fun e' w' => ∃ v1 v2 : Value, e' = .returned (.tuple #[.agg #[.int .u8 T, v1, v2], .bool (blankB i b r l sr sl e 105)]) ∧ Kd.V (Kd.int .u8) 5 w' w.heap.size (fun k => w.heap.size ≤ k) v1 body ∧ Kd.V k45 45 w' w.heap.size (fun k => w.heap.size ≤ k) v2 kids ∧ Below w.heap.size w w' := by
 have PN := Aside0.mk hN
 have PB := Aside0.mk (fun W => blank_105 i Ab cb b r Al cl l sr As cs sl e W)
 have t0 := any_ta0_0
 generalize blankB i b r l sr sl e 105 = P at PB ⊢
 generalize b.length = nb at PN PB ⊢
 generalize l.length = nl at PN PB ⊢
 generalize sl.length = ns at PN PB ⊢
 obtain ⟨X, hX⟩ : ∃ X, X = anyV 0 := ⟨_, rfl⟩
 rw [← hX] at t0 ⊢
 clear hX hN
 go_enter Tryd.func9, Tryd.ntmps9
 go_wp2_with (go_at_call 13; refine (PN.out _ (start3_below w #[.int .i64 i, .slice Ab nb cb, .string r, .slice Al nl cl, .string sr, .slice As ns cs, .int .i64 e])).mono ?_; rintro e' w1 ⟨v1, v2, rfl, hV1, hV2, hb⟩; obtain ⟨A1, c1, rfl⟩ := Kd.V_slice hV1; obtain ⟨A2, c2, rfl⟩ := Kd.V_slice hV2; generalize hm1 : body.length = m1 at hV1 ⊢; generalize hm2 : kids.length = m2 at hV2 ⊢; have P1 := Aside0.mk (And.intro hV1 (And.intro hV2 hb)); clear hV1 hV2 hb hm1 hm2)
 obtain ⟨o, ho⟩ : ∃ o, Obj.cells #[.int .u8 T, .slice A1 m1 c1, .slice A2 m2 c2] 45 = o := ⟨_, rfl⟩
 have kb := blk_alloc (blk_below (start3_0 w #[.int .i64 i, .slice Ab nb cb, .string r, .slice Al nl cl, .string sr, .slice As ns cs, .int .i64 e]) P1.out.2.2) o
 have kr := blk_alloc (blk_below (start3_1 w #[.int .i64 i, .slice Ab nb cb, .string r, .slice Al nl cl, .string sr, .slice As ns cs, .int .i64 e]) P1.out.2.2) o
 have kn := blk_new w1 o
 have hlt : w.heap.size + 2 < w1.heap.size := blk_lt (blk_below (start3_2 w #[.int .i64 i, .slice Ab nb cb, .string r, .slice Al nl cl, .string sr, .slice As ns cs, .int .i64 e]) P1.out.2.2)
 have hV1 := Kd.V_alloc P1.out.1 o
 have hV2 := Kd.V_alloc P1.out.2.1 o
 have hB := below_alloc (below_step (start3_below w #[.int .i64 i, .slice Ab nb cb, .string r, .slice Al nl cl, .string sr, .slice As ns cs, .int .i64 e]) P1.out.2.2) o
 rw [ho]
 generalize w1.alloc o = W at kb kr kn hV1 hV2 hB ⊢
 rw [← ho] at kn
 clear ho
 have b0 : W.cell? ⟨w.heap.size, 0, none⟩ = some (.int .i64 i) := (blk_cell kb 0).trans rfl
 have b1 : W.cell? ⟨w.heap.size, 1, none⟩ = some (.slice Ab nb cb) := (blk_cell kb 1).trans rfl
 have b2 : W.cell? ⟨w.heap.size, 2, none⟩ = some (.string r) := (blk_cell kb 2).trans rfl
 have b3 : W.cell? ⟨w.heap.size, 3, none⟩ = some (.slice Al nl cl) := (blk_cell kb 3).trans rfl
 have b4 : W.cell? ⟨w.heap.size, 4, none⟩ = some (.string sr) := (blk_cell kb 4).trans rfl
 have b5 : W.cell? ⟨w.heap.size, 5, none⟩ = some (.slice As ns cs) := (blk_cell kb 5).trans rfl
 have b6 : W.cell? ⟨w.heap.size, 6, none⟩ = some (.int .i64 e) := (blk_cell kb 6).trans rfl
 have x0 : W.cell? ⟨w1.heap.size, 0, none⟩ = some (.int .u8 T) := (blk_cell kn 0).trans rfl
 have x1 : W.cell? ⟨w1.heap.size, 1, none⟩ = some (.slice A1 m1 c1) := (blk_cell kn 1).trans rfl
 have x2 : W.cell? ⟨w1.heap.size, 2, none⟩ = some (.slice A2 m2 c2) := (blk_cell kn 2).trans rfl
 have r0 := (blk_cell kr 0).trans rfl
 have y0 := blk_frozen kr 0
 have r1 := (blk_cell kr 1).trans rfl
 have y1 := blk_frozen kr 1
 have r2 := (blk_cell kr 2).trans rfl
 have y2 := blk_frozen kr 2
 have PK := Aside0.mk (And.intro (fun (w' : World) (hb : Below W.heap.size W w') => blk_below kr hb) (And.intro (fun (w' : World) (hb : Below W.heap.size W w') => blk_below kb hb) (And.intro (fun (w' : World) (hb : Below W.heap.size W w') => blk_below kn hb) (And.intro hV1 (And.intro hV2 hB)))))
 have PW0 := Aside0.mk (And.intro (Below.refl W.heap.size W) kr)
 have hne : w.heap.size + 1 ≠ w1.heap.size := by omega
 have hne2 := hne.symm
 have hne3 : w.heap.size ≠ w1.heap.size := by omega
 have hne4 := hne3.symm
 clear kb kr kn hV1 hV2 hB P1 hlt
 go_region_held3 (fun w' => w'.cell? ⟨w.heap.size, 0, none⟩ = some (.int .i64 i) ∧ w'.cell? ⟨w.heap.size, 1, none⟩ = some (.slice Ab nb cb) ∧ w'.cell? ⟨w.heap.size, 2, none⟩ = some (.string r) ∧ w'.cell? ⟨w.heap.size, 3, none⟩ = some (.slice Al nl cl) ∧ w'.cell? ⟨w.heap.size, 4, none⟩ = some (.string sr) ∧ w'.cell? ⟨w.heap.size, 5, none⟩ = some (.slice As ns cs) ∧ w'.cell? ⟨w.heap.size, 6, none⟩ = some (.int .i64 e) ∧ w'.cell? ⟨w1.heap.size, 0, none⟩ = some (.int .u8 T) ∧ w'.cell? ⟨w1.heap.size, 1, none⟩ = some (.slice A1 m1 c1) ∧ w'.cell? ⟨w1.heap.size, 2, none⟩ = some (.slice A2 m2 c2)) (go_keep) (first | (go_at_call 14; refine (PB.out _).mono ?_; rintro e' w' ⟨rfl, hb⟩; have hbW : Below W.heap.size W w' := (by first | exact hb | exact below_step (below_drew1 (Below.refl _ _)) hb); have kb2 := PK.out.2.1 w' hbW; have kr2 := PK.out.1 w' hbW; have kn2 := PK.out.2.2.1 w' hbW; have b20 := (blk_cell kb2 0).trans rfl; have b21 := (blk_cell kb2 1).trans rfl; have b22 := (blk_cell kb2 2).trans rfl; have b23 := (blk_cell kb2 3).trans rfl; have b24 := (blk_cell kb2 4).trans rfl; have b25 := (blk_cell kb2 5).trans rfl; have b26 := (blk_cell kb2 6).trans rfl; have x20 := (blk_cell kn2 0).trans rfl; have r20 := (blk_cell kr2 0).trans rfl; have y20 := blk_frozen kr2 0; have x21 := (blk_cell kn2 1).trans rfl; have r21 := (blk_cell kr2 1).trans rfl; have y21 := blk_frozen kr2 1; have x22 := (blk_cell kn2 2).trans rfl; have r22 := (blk_cell kr2 2).trans rfl; have y22 := blk_frozen kr2 2; have PW := Aside0.mk (And.intro hbW kr2); clear hb hbW kb2 kr2 kn2))
 go_wp2
 have kf := put3 PW.out.2 (.int .u8 T) (.slice A1 m1 c1) (.slice A2 m2 c2)
 refine bodyPost_ret (results_ct rfl _ _ (w.heap.size + 1) 45 #[.int .u8 T, .slice A1 m1 c1, .slice A2 m2 c2] (0, 0) _ rfl (by first | exact kf | exact blk_drew kf) Tryd.underlying45 rfl (by kernel_rfl)) rfl ?_
 have hk1 : ∀ k, (start3 w #[.int .i64 i, .slice Ab nb cb, .string r, .slice Al nl cl, .string sr, .slice As ns cs, .int .i64 e]).heap.size ≤ k → k ≠ w.heap.size + 1 := fun k hk => by rw [start3_size] at hk; omega
 have hk2 : ∀ k, (start3 w #[.int .i64 i, .slice Ab nb cb, .string r, .slice Al nl cl, .string sr, .slice As ns cs, .int .i64 e]).heap.size ≤ k → w.heap.size ≤ k := fun k hk => by rw [start3_size] at hk; omega
 have q1 := far3 (Kd.V_below PK.out.2.2.2.1 PW.out.1) hk1 (.int .u8 T) (.slice A1 m1 c1) (.slice A2 m2 c2)
 have q2 := far3 (Kd.V_below PK.out.2.2.2.2.1 PW.out.1) hk1 (.int .u8 T) (.slice A1 m1 c1) (.slice A2 m2 c2)
 have q3 := set3 (below_step PK.out.2.2.2.2.2 PW.out.1) (Nat.le_succ w.heap.size) (.int .u8 T) (.slice A1 m1 c1) (.slice A2 m2 c2)
 exact ⟨_, _, rfl, by first | exact Kd.V_mono q1 hk2 | exact Kd.V_drew (Kd.V_mono q1 hk2), by first | exact Kd.V_mono q2 hk2 | exact Kd.V_drew (Kd.V_mono q2 hk2), by first | exact q3 | exact below_drew1 q3⟩
set_option maxHeartbeats 8000000 in
set_option maxRecDepth 100000 in
theorem state_time (T : Int) (body : List Int) (kids : List S45) (i : Int) (Ab : Option Addr) (cb : Nat) (b : List Int) (r : ByteArray) (Al : Option Addr) (cl : Nat) (l : List ByteArray) (sr : ByteArray) (As : Option Addr) (cs : Nat) (sl : List ByteArray) (e : Int) (w : World)
  (hN : ∀ W, Below w.heap.size w W → Calls Tryd.prog 13 #[.iface 51 (.int .i64 i)] W fun e' w' => ∃ v1 v2 : Value, e' = .returned (.tuple #[.agg #[.int .u8 T, v1, v2], .bool true]) ∧ Kd.V (Kd.int .u8) 5 w' W.heap.size (fun k => W.heap.size ≤ k) v1 body ∧ Kd.V k45 45 w' W.heap.size (fun k => W.heap.size ≤ k) v2 kids ∧ Below W.heap.size W w') :
  Calls Tryd.prog 9 #[anyV 2, .agg #[.int .i64 i, .slice Ab b.length cb, .string r, .slice Al l.length cl, .string sr, .slice As sl.length cs, .int .i64 e]] w fun e' w' => ∃ v1 v2 : Value, e' = .returned (.tuple #[.agg #[.int .u8 T, v1, v2], .bool (blankB i b r l sr sl e 105)]) ∧ Kd.V (Kd.int .u8) 5 w' w.heap.size (fun k => w.heap.size ≤ k) v1 body ∧ Kd.V k45 45 w' w.heap.size (fun k => w.heap.size ≤ k) v2 kids ∧ Below w.heap.size w w' := by
 have PN := Aside0.mk hN
 have PB := Aside0.mk (fun W => blank_105 i Ab cb b r Al cl l sr As cs sl e W)
 have t0 := any_ta2_0
 have t1 := any_ta2_1
 have t2 := any_ta2_2
 generalize blankB i b r l sr sl e 105 = P at PB ⊢
 generalize b.length = nb at PN PB ⊢
 generalize l.length = nl at PN PB ⊢
 generalize sl.length = ns at PN PB ⊢
 obtain ⟨X, hX⟩ : ∃ X, X = anyV 2 := ⟨_, rfl⟩
 rw [← hX] at t0 t1 t2 ⊢
 clear hX hN
 go_enter Tryd.func9, Tryd.ntmps9
 go_wp2_with (go_at_call 13; refine (PN.out _ (start3_below w #[.int .i64 i, .slice Ab nb cb, .string r, .slice Al nl cl, .string sr, .slice As ns cs, .int .i64 e])).mono ?_; rintro e' w1 ⟨v1, v2, rfl, hV1, hV2, hb⟩; obtain ⟨A1, c1, rfl⟩ := Kd.V_slice hV1; obtain ⟨A2, c2, rfl⟩ := Kd.V_slice hV2; generalize hm1 : body.length = m1 at hV1 ⊢; generalize hm2 : kids.length = m2 at hV2 ⊢; have P1 := Aside0.mk (And.intro hV1 (And.intro hV2 hb)); clear hV1 hV2 hb hm1 hm2)
 obtain ⟨o, ho⟩ : ∃ o, Obj.cells #[.int .u8 T, .slice A1 m1 c1, .slice A2 m2 c2] 45 = o := ⟨_, rfl⟩
 have kb := blk_alloc (blk_below (start3_0 w #[.int .i64 i, .slice Ab nb cb, .string r, .slice Al nl cl, .string sr, .slice As ns cs, .int .i64 e]) P1.out.2.2) o
 have kr := blk_alloc (blk_below (start3_1 w #[.int .i64 i, .slice Ab nb cb, .string r, .slice Al nl cl, .string sr, .slice As ns cs, .int .i64 e]) P1.out.2.2) o
 have kn := blk_new w1 o
 have hlt : w.heap.size + 2 < w1.heap.size := blk_lt (blk_below (start3_2 w #[.int .i64 i, .slice Ab nb cb, .string r, .slice Al nl cl, .string sr, .slice As ns cs, .int .i64 e]) P1.out.2.2)
 have hV1 := Kd.V_alloc P1.out.1 o
 have hV2 := Kd.V_alloc P1.out.2.1 o
 have hB := below_alloc (below_step (start3_below w #[.int .i64 i, .slice Ab nb cb, .string r, .slice Al nl cl, .string sr, .slice As ns cs, .int .i64 e]) P1.out.2.2) o
 rw [ho]
 generalize w1.alloc o = W at kb kr kn hV1 hV2 hB ⊢
 rw [← ho] at kn
 clear ho
 have b0 : W.cell? ⟨w.heap.size, 0, none⟩ = some (.int .i64 i) := (blk_cell kb 0).trans rfl
 have b1 : W.cell? ⟨w.heap.size, 1, none⟩ = some (.slice Ab nb cb) := (blk_cell kb 1).trans rfl
 have b2 : W.cell? ⟨w.heap.size, 2, none⟩ = some (.string r) := (blk_cell kb 2).trans rfl
 have b3 : W.cell? ⟨w.heap.size, 3, none⟩ = some (.slice Al nl cl) := (blk_cell kb 3).trans rfl
 have b4 : W.cell? ⟨w.heap.size, 4, none⟩ = some (.string sr) := (blk_cell kb 4).trans rfl
 have b5 : W.cell? ⟨w.heap.size, 5, none⟩ = some (.slice As ns cs) := (blk_cell kb 5).trans rfl
 have b6 : W.cell? ⟨w.heap.size, 6, none⟩ = some (.int .i64 e) := (blk_cell kb 6).trans rfl
 have x0 : W.cell? ⟨w1.heap.size, 0, none⟩ = some (.int .u8 T) := (blk_cell kn 0).trans rfl
 have x1 : W.cell? ⟨w1.heap.size, 1, none⟩ = some (.slice A1 m1 c1) := (blk_cell kn 1).trans rfl
 have x2 : W.cell? ⟨w1.heap.size, 2, none⟩ = some (.slice A2 m2 c2) := (blk_cell kn 2).trans rfl
 have r0 := (blk_cell kr 0).trans rfl
 have y0 := blk_frozen kr 0
 have r1 := (blk_cell kr 1).trans rfl
 have y1 := blk_frozen kr 1
 have r2 := (blk_cell kr 2).trans rfl
 have y2 := blk_frozen kr 2
 have PK := Aside0.mk (And.intro (fun (w' : World) (hb : Below W.heap.size W w') => blk_below kr hb) (And.intro (fun (w' : World) (hb : Below W.heap.size W w') => blk_below kb hb) (And.intro (fun (w' : World) (hb : Below W.heap.size W w') => blk_below kn hb) (And.intro hV1 (And.intro hV2 hB)))))
 have PW0 := Aside0.mk (And.intro (Below.refl W.heap.size W) kr)
 have hne : w.heap.size + 1 ≠ w1.heap.size := by omega
 have hne2 := hne.symm
 have hne3 : w.heap.size ≠ w1.heap.size := by omega
 have hne4 := hne3.symm
 clear kb kr kn hV1 hV2 hB P1 hlt
 go_region_held3 (fun w' => w'.cell? ⟨w.heap.size, 0, none⟩ = some (.int .i64 i) ∧ w'.cell? ⟨w.heap.size, 1, none⟩ = some (.slice Ab nb cb) ∧ w'.cell? ⟨w.heap.size, 2, none⟩ = some (.string r) ∧ w'.cell? ⟨w.heap.size, 3, none⟩ = some (.slice Al nl cl) ∧ w'.cell? ⟨w.heap.size, 4, none⟩ = some (.string sr) ∧ w'.cell? ⟨w.heap.size, 5, none⟩ = some (.slice As ns cs) ∧ w'.cell? ⟨w.heap.size, 6, none⟩ = some (.int .i64 e) ∧ w'.cell? ⟨w1.heap.size, 0, none⟩ = some (.int .u8 T) ∧ w'.cell? ⟨w1.heap.size, 1, none⟩ = some (.slice A1 m1 c1) ∧ w'.cell? ⟨w1.heap.size, 2, none⟩ = some (.slice A2 m2 c2)) (go_keep) (first | (go_at_call 14; refine (PB.out _).mono ?_; rintro e' w' ⟨rfl, hb⟩; have hbW : Below W.heap.size W w' := (by first | exact hb | exact below_step (below_drew1 (Below.refl _ _)) hb); have kb2 := PK.out.2.1 w' hbW; have kr2 := PK.out.1 w' hbW; have kn2 := PK.out.2.2.1 w' hbW; have b20 := (blk_cell kb2 0).trans rfl; have b21 := (blk_cell kb2 1).trans rfl; have b22 := (blk_cell kb2 2).trans rfl; have b23 := (blk_cell kb2 3).trans rfl; have b24 := (blk_cell kb2 4).trans rfl; have b25 := (blk_cell kb2 5).trans rfl; have b26 := (blk_cell kb2 6).trans rfl; have x20 := (blk_cell kn2 0).trans rfl; have r20 := (blk_cell kr2 0).trans rfl; have y20 := blk_frozen kr2 0; have x21 := (blk_cell kn2 1).trans rfl; have r21 := (blk_cell kr2 1).trans rfl; have y21 := blk_frozen kr2 1; have x22 := (blk_cell kn2 2).trans rfl; have r22 := (blk_cell kr2 2).trans rfl; have y22 := blk_frozen kr2 2; have PW := Aside0.mk (And.intro hbW kr2); clear hb hbW kb2 kr2 kn2))
 go_wp2
 have kf := put3 PW.out.2 (.int .u8 T) (.slice A1 m1 c1) (.slice A2 m2 c2)
 refine bodyPost_ret (results_ct rfl _ _ (w.heap.size + 1) 45 #[.int .u8 T, .slice A1 m1 c1, .slice A2 m2 c2] (0, 0) _ rfl (by first | exact kf | exact blk_drew kf) Tryd.underlying45 rfl (by kernel_rfl)) rfl ?_
 have hk1 : ∀ k, (start3 w #[.int .i64 i, .slice Ab nb cb, .string r, .slice Al nl cl, .string sr, .slice As ns cs, .int .i64 e]).heap.size ≤ k → k ≠ w.heap.size + 1 := fun k hk => by rw [start3_size] at hk; omega
 have hk2 : ∀ k, (start3 w #[.int .i64 i, .slice Ab nb cb, .string r, .slice Al nl cl, .string sr, .slice As ns cs, .int .i64 e]).heap.size ≤ k → w.heap.size ≤ k := fun k hk => by rw [start3_size] at hk; omega
 have q1 := far3 (Kd.V_below PK.out.2.2.2.1 PW.out.1) hk1 (.int .u8 T) (.slice A1 m1 c1) (.slice A2 m2 c2)
 have q2 := far3 (Kd.V_below PK.out.2.2.2.2.1 PW.out.1) hk1 (.int .u8 T) (.slice A1 m1 c1) (.slice A2 m2 c2)
 have q3 := set3 (below_step PK.out.2.2.2.2.2 PW.out.1) (Nat.le_succ w.heap.size) (.int .u8 T) (.slice A1 m1 c1) (.slice A2 m2 c2)
 exact ⟨_, _, rfl, by first | exact Kd.V_mono q1 hk2 | exact Kd.V_drew (Kd.V_mono q1 hk2), by first | exact Kd.V_mono q2 hk2 | exact Kd.V_drew (Kd.V_mono q2 hk2), by first | exact q3 | exact below_drew1 q3⟩
set_option maxHeartbeats 8000000 in
set_option maxRecDepth 100000 in
theorem state_time_no (T : Int) (body : List Int) (kids : List S45) (i : Int) (Ab : Option Addr) (cb : Nat) (b : List Int) (r : ByteArray) (Al : Option Addr) (cl : Nat) (l : List ByteArray) (sr : ByteArray) (As : Option Addr) (cs : Nat) (sl : List ByteArray) (e : Int) (w : World)
  (hN : ∀ W, Below w.heap.size w W → Calls Tryd.prog 13 #[.iface 51 (.int .i64 i)] W fun e' w' => ∃ v1 v2 : Value, e' = .returned (.tuple #[.agg #[.int .u8 T, v1, v2], .bool false]) ∧ Kd.V (Kd.int .u8) 5 w' W.heap.size (fun k => W.heap.size ≤ k) v1 body ∧ Kd.V k45 45 w' W.heap.size (fun k => W.heap.size ≤ k) v2 kids ∧ Below W.heap.size W w') :
  Calls Tryd.prog 9 #[anyV 2, .agg #[.int .i64 i, .slice Ab b.length cb, .string r, .slice Al l.length cl, .string sr, .slice As sl.length cs, .int .i64 e]] w fun e' w' => ∃ v1 v2 : Value, e' = .returned (.tuple #[.agg #[.int .u8 T, v1, v2], .bool false]) ∧ Kd.V (Kd.int .u8) 5 w' w.heap.size (fun k => w.heap.size ≤ k) v1 body ∧ Kd.V k45 45 w' w.heap.size (fun k => w.heap.size ≤ k) v2 kids ∧ Below w.heap.size w w' := by
 have PN := Aside0.mk hN
 have t0 := any_ta2_0
 have t1 := any_ta2_1
 have t2 := any_ta2_2
 generalize b.length = nb at PN ⊢
 generalize l.length = nl at PN ⊢
 generalize sl.length = ns at PN ⊢
 obtain ⟨X, hX⟩ : ∃ X, X = anyV 2 := ⟨_, rfl⟩
 rw [← hX] at t0 t1 t2 ⊢
 clear hX hN
 go_enter Tryd.func9, Tryd.ntmps9
 go_wp2_with (go_at_call 13; refine (PN.out _ (start3_below w #[.int .i64 i, .slice Ab nb cb, .string r, .slice Al nl cl, .string sr, .slice As ns cs, .int .i64 e])).mono ?_; rintro e' w1 ⟨v1, v2, rfl, hV1, hV2, hb⟩; obtain ⟨A1, c1, rfl⟩ := Kd.V_slice hV1; obtain ⟨A2, c2, rfl⟩ := Kd.V_slice hV2; generalize hm1 : body.length = m1 at hV1 ⊢; generalize hm2 : kids.length = m2 at hV2 ⊢; have P1 := Aside0.mk (And.intro hV1 (And.intro hV2 hb)); clear hV1 hV2 hb hm1 hm2)
 obtain ⟨o, ho⟩ : ∃ o, Obj.cells #[.int .u8 T, .slice A1 m1 c1, .slice A2 m2 c2] 45 = o := ⟨_, rfl⟩
 have kb := blk_alloc (blk_below (start3_0 w #[.int .i64 i, .slice Ab nb cb, .string r, .slice Al nl cl, .string sr, .slice As ns cs, .int .i64 e]) P1.out.2.2) o
 have kr := blk_alloc (blk_below (start3_1 w #[.int .i64 i, .slice Ab nb cb, .string r, .slice Al nl cl, .string sr, .slice As ns cs, .int .i64 e]) P1.out.2.2) o
 have kn := blk_new w1 o
 have hlt : w.heap.size + 2 < w1.heap.size := blk_lt (blk_below (start3_2 w #[.int .i64 i, .slice Ab nb cb, .string r, .slice Al nl cl, .string sr, .slice As ns cs, .int .i64 e]) P1.out.2.2)
 have hV1 := Kd.V_alloc P1.out.1 o
 have hV2 := Kd.V_alloc P1.out.2.1 o
 have hB := below_alloc (below_step (start3_below w #[.int .i64 i, .slice Ab nb cb, .string r, .slice Al nl cl, .string sr, .slice As ns cs, .int .i64 e]) P1.out.2.2) o
 rw [ho]
 generalize w1.alloc o = W at kb kr kn hV1 hV2 hB ⊢
 rw [← ho] at kn
 clear ho
 have b0 : W.cell? ⟨w.heap.size, 0, none⟩ = some (.int .i64 i) := (blk_cell kb 0).trans rfl
 have b1 : W.cell? ⟨w.heap.size, 1, none⟩ = some (.slice Ab nb cb) := (blk_cell kb 1).trans rfl
 have b2 : W.cell? ⟨w.heap.size, 2, none⟩ = some (.string r) := (blk_cell kb 2).trans rfl
 have b3 : W.cell? ⟨w.heap.size, 3, none⟩ = some (.slice Al nl cl) := (blk_cell kb 3).trans rfl
 have b4 : W.cell? ⟨w.heap.size, 4, none⟩ = some (.string sr) := (blk_cell kb 4).trans rfl
 have b5 : W.cell? ⟨w.heap.size, 5, none⟩ = some (.slice As ns cs) := (blk_cell kb 5).trans rfl
 have b6 : W.cell? ⟨w.heap.size, 6, none⟩ = some (.int .i64 e) := (blk_cell kb 6).trans rfl
 have x0 : W.cell? ⟨w1.heap.size, 0, none⟩ = some (.int .u8 T) := (blk_cell kn 0).trans rfl
 have x1 : W.cell? ⟨w1.heap.size, 1, none⟩ = some (.slice A1 m1 c1) := (blk_cell kn 1).trans rfl
 have x2 : W.cell? ⟨w1.heap.size, 2, none⟩ = some (.slice A2 m2 c2) := (blk_cell kn 2).trans rfl
 have r0 := (blk_cell kr 0).trans rfl
 have y0 := blk_frozen kr 0
 have r1 := (blk_cell kr 1).trans rfl
 have y1 := blk_frozen kr 1
 have r2 := (blk_cell kr 2).trans rfl
 have y2 := blk_frozen kr 2
 have PK := Aside0.mk (And.intro (fun (w' : World) (hb : Below W.heap.size W w') => blk_below kr hb) (And.intro (fun (w' : World) (hb : Below W.heap.size W w') => blk_below kb hb) (And.intro (fun (w' : World) (hb : Below W.heap.size W w') => blk_below kn hb) (And.intro hV1 (And.intro hV2 hB)))))
 have PW0 := Aside0.mk (And.intro (Below.refl W.heap.size W) kr)
 have hne : w.heap.size + 1 ≠ w1.heap.size := by omega
 have hne2 := hne.symm
 have hne3 : w.heap.size ≠ w1.heap.size := by omega
 have hne4 := hne3.symm
 clear kb kr kn hV1 hV2 hB P1 hlt
 go_region
 go_wp2
 have kf := put3 PW0.out.2 (.int .u8 T) (.slice A1 m1 c1) (.slice A2 m2 c2)
 refine bodyPost_ret (results_ct rfl _ _ (w.heap.size + 1) 45 #[.int .u8 T, .slice A1 m1 c1, .slice A2 m2 c2] (0, 0) _ rfl (by first | exact kf | exact blk_drew kf) Tryd.underlying45 rfl (by kernel_rfl)) rfl ?_
 have hk1 : ∀ k, (start3 w #[.int .i64 i, .slice Ab nb cb, .string r, .slice Al nl cl, .string sr, .slice As ns cs, .int .i64 e]).heap.size ≤ k → k ≠ w.heap.size + 1 := fun k hk => by rw [start3_size] at hk; omega
 have hk2 : ∀ k, (start3 w #[.int .i64 i, .slice Ab nb cb, .string r, .slice Al nl cl, .string sr, .slice As ns cs, .int .i64 e]).heap.size ≤ k → w.heap.size ≤ k := fun k hk => by rw [start3_size] at hk; omega
 have q1 := far3 (Kd.V_below PK.out.2.2.2.1 PW0.out.1) hk1 (.int .u8 T) (.slice A1 m1 c1) (.slice A2 m2 c2)
 have q2 := far3 (Kd.V_below PK.out.2.2.2.2.1 PW0.out.1) hk1 (.int .u8 T) (.slice A1 m1 c1) (.slice A2 m2 c2)
 have q3 := set3 (below_step PK.out.2.2.2.2.2 PW0.out.1) (Nat.le_succ w.heap.size) (.int .u8 T) (.slice A1 m1 c1) (.slice A2 m2 c2)
 exact ⟨_, _, rfl, by first | exact Kd.V_mono q1 hk2 | exact Kd.V_drew (Kd.V_mono q1 hk2), by first | exact Kd.V_mono q2 hk2 | exact Kd.V_drew (Kd.V_mono q2 hk2), by first | exact q3 | exact below_drew1 q3⟩
set_option maxHeartbeats 8000000 in
set_option maxRecDepth 100000 in
theorem state_handle (T : Int) (body : List Int) (kids : List S45) (i : Int) (Ab : Option Addr) (cb : Nat) (b : List Int) (r : ByteArray) (Al : Option Addr) (cl : Nat) (l : List ByteArray) (sr : ByteArray) (As : Option Addr) (cs : Nat) (sl : List ByteArray) (e : Int) (w : World)
  (hN : ∀ W, Below w.heap.size w W → Calls Tryd.prog 13 #[.iface 52 (.int .i64 i)] W fun e' w' => ∃ v1 v2 : Value, e' = .returned (.tuple #[.agg #[.int .u8 T, v1, v2], .bool true]) ∧ Kd.V (Kd.int .u8) 5 w' W.heap.size (fun k => W.heap.size ≤ k) v1 body ∧ Kd.V k45 45 w' W.heap.size (fun k => W.heap.size ≤ k) v2 kids ∧ Below W.heap.size W w') :
  Calls Tryd.prog 9 #[anyV 4, .agg #[.int .i64 i, .slice Ab b.length cb, .string r, .slice Al l.length cl, .string sr, .slice As sl.length cs, .int .i64 e]] w fun e' w' => ∃ v1 v2 : Value, e' = .returned (.tuple #[.agg #[.int .u8 T, v1, v2], .bool (blankB i b r l sr sl e 105)]) ∧ Kd.V (Kd.int .u8) 5 w' w.heap.size (fun k => w.heap.size ≤ k) v1 body ∧ Kd.V k45 45 w' w.heap.size (fun k => w.heap.size ≤ k) v2 kids ∧ Below w.heap.size w w' := by
 have PN := Aside0.mk hN
 have PB := Aside0.mk (fun W => blank_105 i Ab cb b r Al cl l sr As cs sl e W)
 have t0 := any_ta4_0
 have t1 := any_ta4_1
 have t2 := any_ta4_2
 have t4 := any_ta4_4
 generalize blankB i b r l sr sl e 105 = P at PB ⊢
 generalize b.length = nb at PN PB ⊢
 generalize l.length = nl at PN PB ⊢
 generalize sl.length = ns at PN PB ⊢
 obtain ⟨X, hX⟩ : ∃ X, X = anyV 4 := ⟨_, rfl⟩
 rw [← hX] at t0 t1 t2 t4 ⊢
 clear hX hN
 go_enter Tryd.func9, Tryd.ntmps9
 go_wp2_with (go_at_call 13; refine (PN.out _ (start3_below w #[.int .i64 i, .slice Ab nb cb, .string r, .slice Al nl cl, .string sr, .slice As ns cs, .int .i64 e])).mono ?_; rintro e' w1 ⟨v1, v2, rfl, hV1, hV2, hb⟩; obtain ⟨A1, c1, rfl⟩ := Kd.V_slice hV1; obtain ⟨A2, c2, rfl⟩ := Kd.V_slice hV2; generalize hm1 : body.length = m1 at hV1 ⊢; generalize hm2 : kids.length = m2 at hV2 ⊢; have P1 := Aside0.mk (And.intro hV1 (And.intro hV2 hb)); clear hV1 hV2 hb hm1 hm2)
 obtain ⟨o, ho⟩ : ∃ o, Obj.cells #[.int .u8 T, .slice A1 m1 c1, .slice A2 m2 c2] 45 = o := ⟨_, rfl⟩
 have kb := blk_alloc (blk_below (start3_0 w #[.int .i64 i, .slice Ab nb cb, .string r, .slice Al nl cl, .string sr, .slice As ns cs, .int .i64 e]) P1.out.2.2) o
 have kr := blk_alloc (blk_below (start3_1 w #[.int .i64 i, .slice Ab nb cb, .string r, .slice Al nl cl, .string sr, .slice As ns cs, .int .i64 e]) P1.out.2.2) o
 have kn := blk_new w1 o
 have hlt : w.heap.size + 2 < w1.heap.size := blk_lt (blk_below (start3_2 w #[.int .i64 i, .slice Ab nb cb, .string r, .slice Al nl cl, .string sr, .slice As ns cs, .int .i64 e]) P1.out.2.2)
 have hV1 := Kd.V_alloc P1.out.1 o
 have hV2 := Kd.V_alloc P1.out.2.1 o
 have hB := below_alloc (below_step (start3_below w #[.int .i64 i, .slice Ab nb cb, .string r, .slice Al nl cl, .string sr, .slice As ns cs, .int .i64 e]) P1.out.2.2) o
 rw [ho]
 generalize w1.alloc o = W at kb kr kn hV1 hV2 hB ⊢
 rw [← ho] at kn
 clear ho
 have b0 : W.cell? ⟨w.heap.size, 0, none⟩ = some (.int .i64 i) := (blk_cell kb 0).trans rfl
 have b1 : W.cell? ⟨w.heap.size, 1, none⟩ = some (.slice Ab nb cb) := (blk_cell kb 1).trans rfl
 have b2 : W.cell? ⟨w.heap.size, 2, none⟩ = some (.string r) := (blk_cell kb 2).trans rfl
 have b3 : W.cell? ⟨w.heap.size, 3, none⟩ = some (.slice Al nl cl) := (blk_cell kb 3).trans rfl
 have b4 : W.cell? ⟨w.heap.size, 4, none⟩ = some (.string sr) := (blk_cell kb 4).trans rfl
 have b5 : W.cell? ⟨w.heap.size, 5, none⟩ = some (.slice As ns cs) := (blk_cell kb 5).trans rfl
 have b6 : W.cell? ⟨w.heap.size, 6, none⟩ = some (.int .i64 e) := (blk_cell kb 6).trans rfl
 have x0 : W.cell? ⟨w1.heap.size, 0, none⟩ = some (.int .u8 T) := (blk_cell kn 0).trans rfl
 have x1 : W.cell? ⟨w1.heap.size, 1, none⟩ = some (.slice A1 m1 c1) := (blk_cell kn 1).trans rfl
 have x2 : W.cell? ⟨w1.heap.size, 2, none⟩ = some (.slice A2 m2 c2) := (blk_cell kn 2).trans rfl
 have r0 := (blk_cell kr 0).trans rfl
 have y0 := blk_frozen kr 0
 have r1 := (blk_cell kr 1).trans rfl
 have y1 := blk_frozen kr 1
 have r2 := (blk_cell kr 2).trans rfl
 have y2 := blk_frozen kr 2
 have PK := Aside0.mk (And.intro (fun (w' : World) (hb : Below W.heap.size W w') => blk_below kr hb) (And.intro (fun (w' : World) (hb : Below W.heap.size W w') => blk_below kb hb) (And.intro (fun (w' : World) (hb : Below W.heap.size W w') => blk_below kn hb) (And.intro hV1 (And.intro hV2 hB)))))
 have PW0 := Aside0.mk (And.intro (Below.refl W.heap.size W) kr)
 have hne : w.heap.size + 1 ≠ w1.heap.size := by omega
 have hne2 := hne.symm
 have hne3 : w.heap.size ≠ w1.heap.size := by omega
 have hne4 := hne3.symm
 clear kb kr kn hV1 hV2 hB P1 hlt
 go_region_held3 (fun w' => w'.cell? ⟨w.heap.size, 0, none⟩ = some (.int .i64 i) ∧ w'.cell? ⟨w.heap.size, 1, none⟩ = some (.slice Ab nb cb) ∧ w'.cell? ⟨w.heap.size, 2, none⟩ = some (.string r) ∧ w'.cell? ⟨w.heap.size, 3, none⟩ = some (.slice Al nl cl) ∧ w'.cell? ⟨w.heap.size, 4, none⟩ = some (.string sr) ∧ w'.cell? ⟨w.heap.size, 5, none⟩ = some (.slice As ns cs) ∧ w'.cell? ⟨w.heap.size, 6, none⟩ = some (.int .i64 e) ∧ w'.cell? ⟨w1.heap.size, 0, none⟩ = some (.int .u8 T) ∧ w'.cell? ⟨w1.heap.size, 1, none⟩ = some (.slice A1 m1 c1) ∧ w'.cell? ⟨w1.heap.size, 2, none⟩ = some (.slice A2 m2 c2)) (go_keep) (first | (go_at_call 14; refine (PB.out _).mono ?_; rintro e' w' ⟨rfl, hb⟩; have hbW : Below W.heap.size W w' := (by first | exact hb | exact below_step (below_drew1 (Below.refl _ _)) hb); have kb2 := PK.out.2.1 w' hbW; have kr2 := PK.out.1 w' hbW; have kn2 := PK.out.2.2.1 w' hbW; have b20 := (blk_cell kb2 0).trans rfl; have b21 := (blk_cell kb2 1).trans rfl; have b22 := (blk_cell kb2 2).trans rfl; have b23 := (blk_cell kb2 3).trans rfl; have b24 := (blk_cell kb2 4).trans rfl; have b25 := (blk_cell kb2 5).trans rfl; have b26 := (blk_cell kb2 6).trans rfl; have x20 := (blk_cell kn2 0).trans rfl; have r20 := (blk_cell kr2 0).trans rfl; have y20 := blk_frozen kr2 0; have x21 := (blk_cell kn2 1).trans rfl; have r21 := (blk_cell kr2 1).trans rfl; have y21 := blk_frozen kr2 1; have x22 := (blk_cell kn2 2).trans rfl; have r22 := (blk_cell kr2 2).trans rfl; have y22 := blk_frozen kr2 2; have PW := Aside0.mk (And.intro hbW kr2); clear hb hbW kb2 kr2 kn2))
 go_wp2
 have kf := put3 PW.out.2 (.int .u8 T) (.slice A1 m1 c1) (.slice A2 m2 c2)
 refine bodyPost_ret (results_ct rfl _ _ (w.heap.size + 1) 45 #[.int .u8 T, .slice A1 m1 c1, .slice A2 m2 c2] (0, 0) _ rfl (by first | exact kf | exact blk_drew kf) Tryd.underlying45 rfl (by kernel_rfl)) rfl ?_
 have hk1 : ∀ k, (start3 w #[.int .i64 i, .slice Ab nb cb, .string r, .slice Al nl cl, .string sr, .slice As ns cs, .int .i64 e]).heap.size ≤ k → k ≠ w.heap.size + 1 := fun k hk => by rw [start3_size] at hk; omega
 have hk2 : ∀ k, (start3 w #[.int .i64 i, .slice Ab nb cb, .string r, .slice Al nl cl, .string sr, .slice As ns cs, .int .i64 e]).heap.size ≤ k → w.heap.size ≤ k := fun k hk => by rw [start3_size] at hk; omega
 have q1 := far3 (Kd.V_below PK.out.2.2.2.1 PW.out.1) hk1 (.int .u8 T) (.slice A1 m1 c1) (.slice A2 m2 c2)
 have q2 := far3 (Kd.V_below PK.out.2.2.2.2.1 PW.out.1) hk1 (.int .u8 T) (.slice A1 m1 c1) (.slice A2 m2 c2)
 have q3 := set3 (below_step PK.out.2.2.2.2.2 PW.out.1) (Nat.le_succ w.heap.size) (.int .u8 T) (.slice A1 m1 c1) (.slice A2 m2 c2)
 exact ⟨_, _, rfl, by first | exact Kd.V_mono q1 hk2 | exact Kd.V_drew (Kd.V_mono q1 hk2), by first | exact Kd.V_mono q2 hk2 | exact Kd.V_drew (Kd.V_mono q2 hk2), by first | exact q3 | exact below_drew1 q3⟩
set_option maxHeartbeats 8000000 in
set_option maxRecDepth 100000 in
theorem state_handle_no (T : Int) (body : List Int) (kids : List S45) (i : Int) (Ab : Option Addr) (cb : Nat) (b : List Int) (r : ByteArray) (Al : Option Addr) (cl : Nat) (l : List ByteArray) (sr : ByteArray) (As : Option Addr) (cs : Nat) (sl : List ByteArray) (e : Int) (w : World)
  (hN : ∀ W, Below w.heap.size w W → Calls Tryd.prog 13 #[.iface 52 (.int .i64 i)] W fun e' w' => ∃ v1 v2 : Value, e' = .returned (.tuple #[.agg #[.int .u8 T, v1, v2], .bool false]) ∧ Kd.V (Kd.int .u8) 5 w' W.heap.size (fun k => W.heap.size ≤ k) v1 body ∧ Kd.V k45 45 w' W.heap.size (fun k => W.heap.size ≤ k) v2 kids ∧ Below W.heap.size W w') :
  Calls Tryd.prog 9 #[anyV 4, .agg #[.int .i64 i, .slice Ab b.length cb, .string r, .slice Al l.length cl, .string sr, .slice As sl.length cs, .int .i64 e]] w fun e' w' => ∃ v1 v2 : Value, e' = .returned (.tuple #[.agg #[.int .u8 T, v1, v2], .bool false]) ∧ Kd.V (Kd.int .u8) 5 w' w.heap.size (fun k => w.heap.size ≤ k) v1 body ∧ Kd.V k45 45 w' w.heap.size (fun k => w.heap.size ≤ k) v2 kids ∧ Below w.heap.size w w' := by
 have PN := Aside0.mk hN
 have t0 := any_ta4_0
 have t1 := any_ta4_1
 have t2 := any_ta4_2
 have t4 := any_ta4_4
 generalize b.length = nb at PN ⊢
 generalize l.length = nl at PN ⊢
 generalize sl.length = ns at PN ⊢
 obtain ⟨X, hX⟩ : ∃ X, X = anyV 4 := ⟨_, rfl⟩
 rw [← hX] at t0 t1 t2 t4 ⊢
 clear hX hN
 go_enter Tryd.func9, Tryd.ntmps9
 go_wp2_with (go_at_call 13; refine (PN.out _ (start3_below w #[.int .i64 i, .slice Ab nb cb, .string r, .slice Al nl cl, .string sr, .slice As ns cs, .int .i64 e])).mono ?_; rintro e' w1 ⟨v1, v2, rfl, hV1, hV2, hb⟩; obtain ⟨A1, c1, rfl⟩ := Kd.V_slice hV1; obtain ⟨A2, c2, rfl⟩ := Kd.V_slice hV2; generalize hm1 : body.length = m1 at hV1 ⊢; generalize hm2 : kids.length = m2 at hV2 ⊢; have P1 := Aside0.mk (And.intro hV1 (And.intro hV2 hb)); clear hV1 hV2 hb hm1 hm2)
 obtain ⟨o, ho⟩ : ∃ o, Obj.cells #[.int .u8 T, .slice A1 m1 c1, .slice A2 m2 c2] 45 = o := ⟨_, rfl⟩
 have kb := blk_alloc (blk_below (start3_0 w #[.int .i64 i, .slice Ab nb cb, .string r, .slice Al nl cl, .string sr, .slice As ns cs, .int .i64 e]) P1.out.2.2) o
 have kr := blk_alloc (blk_below (start3_1 w #[.int .i64 i, .slice Ab nb cb, .string r, .slice Al nl cl, .string sr, .slice As ns cs, .int .i64 e]) P1.out.2.2) o
 have kn := blk_new w1 o
 have hlt : w.heap.size + 2 < w1.heap.size := blk_lt (blk_below (start3_2 w #[.int .i64 i, .slice Ab nb cb, .string r, .slice Al nl cl, .string sr, .slice As ns cs, .int .i64 e]) P1.out.2.2)
 have hV1 := Kd.V_alloc P1.out.1 o
 have hV2 := Kd.V_alloc P1.out.2.1 o
 have hB := below_alloc (below_step (start3_below w #[.int .i64 i, .slice Ab nb cb, .string r, .slice Al nl cl, .string sr, .slice As ns cs, .int .i64 e]) P1.out.2.2) o
 rw [ho]
 generalize w1.alloc o = W at kb kr kn hV1 hV2 hB ⊢
 rw [← ho] at kn
 clear ho
 have b0 : W.cell? ⟨w.heap.size, 0, none⟩ = some (.int .i64 i) := (blk_cell kb 0).trans rfl
 have b1 : W.cell? ⟨w.heap.size, 1, none⟩ = some (.slice Ab nb cb) := (blk_cell kb 1).trans rfl
 have b2 : W.cell? ⟨w.heap.size, 2, none⟩ = some (.string r) := (blk_cell kb 2).trans rfl
 have b3 : W.cell? ⟨w.heap.size, 3, none⟩ = some (.slice Al nl cl) := (blk_cell kb 3).trans rfl
 have b4 : W.cell? ⟨w.heap.size, 4, none⟩ = some (.string sr) := (blk_cell kb 4).trans rfl
 have b5 : W.cell? ⟨w.heap.size, 5, none⟩ = some (.slice As ns cs) := (blk_cell kb 5).trans rfl
 have b6 : W.cell? ⟨w.heap.size, 6, none⟩ = some (.int .i64 e) := (blk_cell kb 6).trans rfl
 have x0 : W.cell? ⟨w1.heap.size, 0, none⟩ = some (.int .u8 T) := (blk_cell kn 0).trans rfl
 have x1 : W.cell? ⟨w1.heap.size, 1, none⟩ = some (.slice A1 m1 c1) := (blk_cell kn 1).trans rfl
 have x2 : W.cell? ⟨w1.heap.size, 2, none⟩ = some (.slice A2 m2 c2) := (blk_cell kn 2).trans rfl
 have r0 := (blk_cell kr 0).trans rfl
 have y0 := blk_frozen kr 0
 have r1 := (blk_cell kr 1).trans rfl
 have y1 := blk_frozen kr 1
 have r2 := (blk_cell kr 2).trans rfl
 have y2 := blk_frozen kr 2
 have PK := Aside0.mk (And.intro (fun (w' : World) (hb : Below W.heap.size W w') => blk_below kr hb) (And.intro (fun (w' : World) (hb : Below W.heap.size W w') => blk_below kb hb) (And.intro (fun (w' : World) (hb : Below W.heap.size W w') => blk_below kn hb) (And.intro hV1 (And.intro hV2 hB)))))
 have PW0 := Aside0.mk (And.intro (Below.refl W.heap.size W) kr)
 have hne : w.heap.size + 1 ≠ w1.heap.size := by omega
 have hne2 := hne.symm
 have hne3 : w.heap.size ≠ w1.heap.size := by omega
 have hne4 := hne3.symm
 clear kb kr kn hV1 hV2 hB P1 hlt
 go_region
 go_wp2
 have kf := put3 PW0.out.2 (.int .u8 T) (.slice A1 m1 c1) (.slice A2 m2 c2)
 refine bodyPost_ret (results_ct rfl _ _ (w.heap.size + 1) 45 #[.int .u8 T, .slice A1 m1 c1, .slice A2 m2 c2] (0, 0) _ rfl (by first | exact kf | exact blk_drew kf) Tryd.underlying45 rfl (by kernel_rfl)) rfl ?_
 have hk1 : ∀ k, (start3 w #[.int .i64 i, .slice Ab nb cb, .string r, .slice Al nl cl, .string sr, .slice As ns cs, .int .i64 e]).heap.size ≤ k → k ≠ w.heap.size + 1 := fun k hk => by rw [start3_size] at hk; omega
 have hk2 : ∀ k, (start3 w #[.int .i64 i, .slice Ab nb cb, .string r, .slice Al nl cl, .string sr, .slice As ns cs, .int .i64 e]).heap.size ≤ k → w.heap.size ≤ k := fun k hk => by rw [start3_size] at hk; omega
 have q1 := far3 (Kd.V_below PK.out.2.2.2.1 PW0.out.1) hk1 (.int .u8 T) (.slice A1 m1 c1) (.slice A2 m2 c2)
 have q2 := far3 (Kd.V_below PK.out.2.2.2.2.1 PW0.out.1) hk1 (.int .u8 T) (.slice A1 m1 c1) (.slice A2 m2 c2)
 have q3 := set3 (below_step PK.out.2.2.2.2.2 PW0.out.1) (Nat.le_succ w.heap.size) (.int .u8 T) (.slice A1 m1 c1) (.slice A2 m2 c2)
 exact ⟨_, _, rfl, by first | exact Kd.V_mono q1 hk2 | exact Kd.V_drew (Kd.V_mono q1 hk2), by first | exact Kd.V_mono q2 hk2 | exact Kd.V_drew (Kd.V_mono q2 hk2), by first | exact q3 | exact below_drew1 q3⟩
set_option maxHeartbeats 8000000 in
set_option maxRecDepth 100000 in
theorem state_princ (T : Int) (body : List Int) (kids : List S45) (i : Int) (Ab : Option Addr) (cb : Nat) (b : List Int) (r : ByteArray) (Al : Option Addr) (cl : Nat) (l : List ByteArray) (sr : ByteArray) (As : Option Addr) (cs : Nat) (sl : List ByteArray) (e : Int) (w : World)
  (hN : ∀ W, Below w.heap.size w W → Calls Tryd.prog 15 #[.agg #[.string r, .slice Al l.length cl]] W fun e' w' => ∃ v1 v2 : Value, e' = .returned (.tuple #[.agg #[.int .u8 T, v1, v2], .int .i64 0]) ∧ Kd.V (Kd.int .u8) 5 w' W.heap.size (fun k => W.heap.size ≤ k) v1 body ∧ Kd.V k45 45 w' W.heap.size (fun k => W.heap.size ≤ k) v2 kids ∧ Below W.heap.size W w') :
  Calls Tryd.prog 9 #[anyV 5, .agg #[.int .i64 i, .slice Ab b.length cb, .string r, .slice Al l.length cl, .string sr, .slice As sl.length cs, .int .i64 e]] w fun e' w' => ∃ v1 v2 : Value, e' = .returned (.tuple #[.agg #[.int .u8 T, v1, v2], .bool (blankB i b r l sr sl e 112)]) ∧ Kd.V (Kd.int .u8) 5 w' w.heap.size (fun k => w.heap.size ≤ k) v1 body ∧ Kd.V k45 45 w' w.heap.size (fun k => w.heap.size ≤ k) v2 kids ∧ Below w.heap.size w w' := by
 have PN := Aside0.mk hN
 have PB := Aside0.mk (fun W => blank_112 i Ab cb b r Al cl l sr As cs sl e W)
 have t0 := any_ta5_0
 have t1 := any_ta5_1
 have t2 := any_ta5_2
 have t4 := any_ta5_4
 have t3 := any_ta5_3
 have t5 := any_ta5_5
 generalize blankB i b r l sr sl e 112 = P at PB ⊢
 generalize b.length = nb at PN PB ⊢
 generalize l.length = nl at PN PB ⊢
 generalize sl.length = ns at PN PB ⊢
 obtain ⟨X, hX⟩ : ∃ X, X = anyV 5 := ⟨_, rfl⟩
 rw [← hX] at t0 t1 t2 t4 t3 t5 ⊢
 clear hX hN
 go_enter Tryd.func9, Tryd.ntmps9
 go_wp2_with (go_at_call 15; refine (PN.out _ (start3_below w #[.int .i64 i, .slice Ab nb cb, .string r, .slice Al nl cl, .string sr, .slice As ns cs, .int .i64 e])).mono ?_; rintro e' w1 ⟨v1, v2, rfl, hV1, hV2, hb⟩; obtain ⟨A1, c1, rfl⟩ := Kd.V_slice hV1; obtain ⟨A2, c2, rfl⟩ := Kd.V_slice hV2; generalize hm1 : body.length = m1 at hV1 ⊢; generalize hm2 : kids.length = m2 at hV2 ⊢; have P1 := Aside0.mk (And.intro hV1 (And.intro hV2 hb)); have k2 := blk_below (start3_2 w #[.int .i64 i, .slice Ab nb cb, .string r, .slice Al nl cl, .string sr, .slice As ns cs, .int .i64 e]) hb; have z0 := (blk_cell k2 0).trans rfl; have z1 := (blk_cell k2 1).trans rfl; have z2 := (blk_cell k2 2).trans rfl; have u0 := blk_frozen k2 0; have u1 := blk_frozen k2 1; have u2 := blk_frozen k2 2; clear k2; clear hV1 hV2 hb hm1 hm2)
 have hlt : w.heap.size + 2 < w1.heap.size := blk_lt (blk_below (start3_2 w #[.int .i64 i, .slice Ab nb cb, .string r, .slice Al nl cl, .string sr, .slice As ns cs, .int .i64 e]) P1.out.2.2)
 have kb := off3 (blk_below (start3_0 w #[.int .i64 i, .slice Ab nb cb, .string r, .slice Al nl cl, .string sr, .slice As ns cs, .int .i64 e]) P1.out.2.2) (show w.heap.size ≠ w.heap.size + 2 by omega) (.int .u8 T) (.slice A1 m1 c1) (.slice A2 m2 c2)
 have kr := off3 (blk_below (start3_1 w #[.int .i64 i, .slice Ab nb cb, .string r, .slice Al nl cl, .string sr, .slice As ns cs, .int .i64 e]) P1.out.2.2) (show w.heap.size + 1 ≠ w.heap.size + 2 by omega) (.int .u8 T) (.slice A1 m1 c1) (.slice A2 m2 c2)
 have kn := put3 (blk_below (start3_2 w #[.int .i64 i, .slice Ab nb cb, .string r, .slice Al nl cl, .string sr, .slice As ns cs, .int .i64 e]) P1.out.2.2) (.int .u8 T) (.slice A1 m1 c1) (.slice A2 m2 c2)
 have hV1 := far3 P1.out.1 (g := w.heap.size + 2) (fun k hk => by rw [start3_size] at hk; omega) (.int .u8 T) (.slice A1 m1 c1) (.slice A2 m2 c2)
 have hV2 := far3 P1.out.2.1 (g := w.heap.size + 2) (fun k hk => by rw [start3_size] at hk; omega) (.int .u8 T) (.slice A1 m1 c1) (.slice A2 m2 c2)
 have hB := set3 (g := w.heap.size + 2) (below_step (start3_below w #[.int .i64 i, .slice Ab nb cb, .string r, .slice Al nl cl, .string sr, .slice As ns cs, .int .i64 e]) P1.out.2.2) (by omega) (.int .u8 T) (.slice A1 m1 c1) (.slice A2 m2 c2)
 clear z0 z1 z2 u0 u1 u2
 generalize ((w1.setCell ⟨w.heap.size + 2, 0, none⟩ (.int .u8 T)).setCell ⟨w.heap.size + 2, 1, none⟩ (.slice A1 m1 c1)).setCell ⟨w.heap.size + 2, 2, none⟩ (.slice A2 m2 c2) = W at kb kr kn hV1 hV2 hB ⊢
 have b0 : W.cell? ⟨w.heap.size, 0, none⟩ = some (.int .i64 i) := (blk_cell kb 0).trans rfl
 have b1 : W.cell? ⟨w.heap.size, 1, none⟩ = some (.slice Ab nb cb) := (blk_cell kb 1).trans rfl
 have b2 : W.cell? ⟨w.heap.size, 2, none⟩ = some (.string r) := (blk_cell kb 2).trans rfl
 have b3 : W.cell? ⟨w.heap.size, 3, none⟩ = some (.slice Al nl cl) := (blk_cell kb 3).trans rfl
 have b4 : W.cell? ⟨w.heap.size, 4, none⟩ = some (.string sr) := (blk_cell kb 4).trans rfl
 have b5 : W.cell? ⟨w.heap.size, 5, none⟩ = some (.slice As ns cs) := (blk_cell kb 5).trans rfl
 have b6 : W.cell? ⟨w.heap.size, 6, none⟩ = some (.int .i64 e) := (blk_cell kb 6).trans rfl
 have x0 : W.cell? ⟨w.heap.size + 2, 0, none⟩ = some (.int .u8 T) := (blk_cell kn 0).trans rfl
 have x1 : W.cell? ⟨w.heap.size + 2, 1, none⟩ = some (.slice A1 m1 c1) := (blk_cell kn 1).trans rfl
 have x2 : W.cell? ⟨w.heap.size + 2, 2, none⟩ = some (.slice A2 m2 c2) := (blk_cell kn 2).trans rfl
 have r0 := (blk_cell kr 0).trans rfl
 have y0 := blk_frozen kr 0
 have r1 := (blk_cell kr 1).trans rfl
 have y1 := blk_frozen kr 1
 have r2 := (blk_cell kr 2).trans rfl
 have y2 := blk_frozen kr 2
 have PK := Aside0.mk (And.intro (fun (w' : World) (hb : Below W.heap.size W w') => blk_below kr hb) (And.intro (fun (w' : World) (hb : Below W.heap.size W w') => blk_below kb hb) (And.intro (fun (w' : World) (hb : Below W.heap.size W w') => blk_below kn hb) (And.intro hV1 (And.intro hV2 hB)))))
 have PW0 := Aside0.mk (And.intro (Below.refl W.heap.size W) kr)
 clear kb kr kn hV1 hV2 hB P1 hlt
 go_region_held3 (fun w' => w'.cell? ⟨w.heap.size, 0, none⟩ = some (.int .i64 i) ∧ w'.cell? ⟨w.heap.size, 1, none⟩ = some (.slice Ab nb cb) ∧ w'.cell? ⟨w.heap.size, 2, none⟩ = some (.string r) ∧ w'.cell? ⟨w.heap.size, 3, none⟩ = some (.slice Al nl cl) ∧ w'.cell? ⟨w.heap.size, 4, none⟩ = some (.string sr) ∧ w'.cell? ⟨w.heap.size, 5, none⟩ = some (.slice As ns cs) ∧ w'.cell? ⟨w.heap.size, 6, none⟩ = some (.int .i64 e) ∧ w'.cell? ⟨w.heap.size + 2, 0, none⟩ = some (.int .u8 T) ∧ w'.cell? ⟨w.heap.size + 2, 1, none⟩ = some (.slice A1 m1 c1) ∧ w'.cell? ⟨w.heap.size + 2, 2, none⟩ = some (.slice A2 m2 c2)) (go_keep) (first | (go_at_call 14; refine (PB.out _).mono ?_; rintro e' w' ⟨rfl, hb⟩; have hbW : Below W.heap.size W w' := (by first | exact hb | exact below_step (below_drew1 (Below.refl _ _)) hb); have kb2 := PK.out.2.1 w' hbW; have kr2 := PK.out.1 w' hbW; have kn2 := PK.out.2.2.1 w' hbW; have b20 := (blk_cell kb2 0).trans rfl; have b21 := (blk_cell kb2 1).trans rfl; have b22 := (blk_cell kb2 2).trans rfl; have b23 := (blk_cell kb2 3).trans rfl; have b24 := (blk_cell kb2 4).trans rfl; have b25 := (blk_cell kb2 5).trans rfl; have b26 := (blk_cell kb2 6).trans rfl; have x20 := (blk_cell kn2 0).trans rfl; have r20 := (blk_cell kr2 0).trans rfl; have y20 := blk_frozen kr2 0; have x21 := (blk_cell kn2 1).trans rfl; have r21 := (blk_cell kr2 1).trans rfl; have y21 := blk_frozen kr2 1; have x22 := (blk_cell kn2 2).trans rfl; have r22 := (blk_cell kr2 2).trans rfl; have y22 := blk_frozen kr2 2; have PW := Aside0.mk (And.intro hbW kr2); clear hb hbW kb2 kr2 kn2))
 go_wp2
 have kf := put3 PW.out.2 (.int .u8 T) (.slice A1 m1 c1) (.slice A2 m2 c2)
 refine bodyPost_ret (results_ct rfl _ _ (w.heap.size + 1) 45 #[.int .u8 T, .slice A1 m1 c1, .slice A2 m2 c2] (0, 0) _ rfl (by first | exact kf | exact blk_drew kf) Tryd.underlying45 rfl (by kernel_rfl)) rfl ?_
 have hk1 : ∀ k, (start3 w #[.int .i64 i, .slice Ab nb cb, .string r, .slice Al nl cl, .string sr, .slice As ns cs, .int .i64 e]).heap.size ≤ k → k ≠ w.heap.size + 1 := fun k hk => by rw [start3_size] at hk; omega
 have hk2 : ∀ k, (start3 w #[.int .i64 i, .slice Ab nb cb, .string r, .slice Al nl cl, .string sr, .slice As ns cs, .int .i64 e]).heap.size ≤ k → w.heap.size ≤ k := fun k hk => by rw [start3_size] at hk; omega
 have q1 := far3 (Kd.V_below PK.out.2.2.2.1 PW.out.1) hk1 (.int .u8 T) (.slice A1 m1 c1) (.slice A2 m2 c2)
 have q2 := far3 (Kd.V_below PK.out.2.2.2.2.1 PW.out.1) hk1 (.int .u8 T) (.slice A1 m1 c1) (.slice A2 m2 c2)
 have q3 := set3 (below_step PK.out.2.2.2.2.2 PW.out.1) (Nat.le_succ w.heap.size) (.int .u8 T) (.slice A1 m1 c1) (.slice A2 m2 c2)
 exact ⟨_, _, rfl, by first | exact Kd.V_mono q1 hk2 | exact Kd.V_drew (Kd.V_mono q1 hk2), by first | exact Kd.V_mono q2 hk2 | exact Kd.V_drew (Kd.V_mono q2 hk2), by first | exact q3 | exact below_drew1 q3⟩
set_option maxHeartbeats 8000000 in
set_option maxRecDepth 100000 in
theorem state_princ_no (T : Int) (body : List Int) (kids : List S45) (E : Int) (hE : E ≠ 0) (i : Int) (Ab : Option Addr) (cb : Nat) (b : List Int) (r : ByteArray) (Al : Option Addr) (cl : Nat) (l : List ByteArray) (sr : ByteArray) (As : Option Addr) (cs : Nat) (sl : List ByteArray) (e : Int) (w : World)
  (hN : ∀ W, Below w.heap.size w W → Calls Tryd.prog 15 #[.agg #[.string r, .slice Al l.length cl]] W fun e' w' => ∃ v1 v2 : Value, e' = .returned (.tuple #[.agg #[.int .u8 T, v1, v2], .int .i64 E]) ∧ Kd.V (Kd.int .u8) 5 w' W.heap.size (fun k => W.heap.size ≤ k) v1 body ∧ Kd.V k45 45 w' W.heap.size (fun k => W.heap.size ≤ k) v2 kids ∧ Below W.heap.size W w') :
  Calls Tryd.prog 9 #[anyV 5, .agg #[.int .i64 i, .slice Ab b.length cb, .string r, .slice Al l.length cl, .string sr, .slice As sl.length cs, .int .i64 e]] w fun e' w' => ∃ v1 v2 : Value, e' = .returned (.tuple #[.agg #[.int .u8 T, v1, v2], .bool false]) ∧ Kd.V (Kd.int .u8) 5 w' w.heap.size (fun k => w.heap.size ≤ k) v1 body ∧ Kd.V k45 45 w' w.heap.size (fun k => w.heap.size ≤ k) v2 kids ∧ Below w.heap.size w w' := by
 have PN := Aside0.mk hN
 have t0 := any_ta5_0
 have t1 := any_ta5_1
 have t2 := any_ta5_2
 have t4 := any_ta5_4
 have t3 := any_ta5_3
 have t5 := any_ta5_5
 generalize b.length = nb at PN ⊢
 generalize l.length = nl at PN ⊢
 generalize sl.length = ns at PN ⊢
 obtain ⟨X, hX⟩ : ∃ X, X = anyV 5 := ⟨_, rfl⟩
 rw [← hX] at t0 t1 t2 t4 t3 t5 ⊢
 clear hX hN
 have hE0 : (E == 0) = false := beq_eq_false_iff_ne.mpr hE
 clear hE
 go_enter Tryd.func9, Tryd.ntmps9
 go_wp2_with (go_at_call 15; refine (PN.out _ (start3_below w #[.int .i64 i, .slice Ab nb cb, .string r, .slice Al nl cl, .string sr, .slice As ns cs, .int .i64 e])).mono ?_; rintro e' w1 ⟨v1, v2, rfl, hV1, hV2, hb⟩; obtain ⟨A1, c1, rfl⟩ := Kd.V_slice hV1; obtain ⟨A2, c2, rfl⟩ := Kd.V_slice hV2; generalize hm1 : body.length = m1 at hV1 ⊢; generalize hm2 : kids.length = m2 at hV2 ⊢; have P1 := Aside0.mk (And.intro hV1 (And.intro hV2 hb)); have k2 := blk_below (start3_2 w #[.int .i64 i, .slice Ab nb cb, .string r, .slice Al nl cl, .string sr, .slice As ns cs, .int .i64 e]) hb; have z0 := (blk_cell k2 0).trans rfl; have z1 := (blk_cell k2 1).trans rfl; have z2 := (blk_cell k2 2).trans rfl; have u0 := blk_frozen k2 0; have u1 := blk_frozen k2 1; have u2 := blk_frozen k2 2; clear k2; clear hV1 hV2 hb hm1 hm2)
 have hlt : w.heap.size + 2 < w1.heap.size := blk_lt (blk_below (start3_2 w #[.int .i64 i, .slice Ab nb cb, .string r, .slice Al nl cl, .string sr, .slice As ns cs, .int .i64 e]) P1.out.2.2)
 have kb := off3 (blk_below (start3_0 w #[.int .i64 i, .slice Ab nb cb, .string r, .slice Al nl cl, .string sr, .slice As ns cs, .int .i64 e]) P1.out.2.2) (show w.heap.size ≠ w.heap.size + 2 by omega) (.int .u8 T) (.slice A1 m1 c1) (.slice A2 m2 c2)
 have kr := off3 (blk_below (start3_1 w #[.int .i64 i, .slice Ab nb cb, .string r, .slice Al nl cl, .string sr, .slice As ns cs, .int .i64 e]) P1.out.2.2) (show w.heap.size + 1 ≠ w.heap.size + 2 by omega) (.int .u8 T) (.slice A1 m1 c1) (.slice A2 m2 c2)
 have kn := put3 (blk_below (start3_2 w #[.int .i64 i, .slice Ab nb cb, .string r, .slice Al nl cl, .string sr, .slice As ns cs, .int .i64 e]) P1.out.2.2) (.int .u8 T) (.slice A1 m1 c1) (.slice A2 m2 c2)
 have hV1 := far3 P1.out.1 (g := w.heap.size + 2) (fun k hk => by rw [start3_size] at hk; omega) (.int .u8 T) (.slice A1 m1 c1) (.slice A2 m2 c2)
 have hV2 := far3 P1.out.2.1 (g := w.heap.size + 2) (fun k hk => by rw [start3_size] at hk; omega) (.int .u8 T) (.slice A1 m1 c1) (.slice A2 m2 c2)
 have hB := set3 (g := w.heap.size + 2) (below_step (start3_below w #[.int .i64 i, .slice Ab nb cb, .string r, .slice Al nl cl, .string sr, .slice As ns cs, .int .i64 e]) P1.out.2.2) (by omega) (.int .u8 T) (.slice A1 m1 c1) (.slice A2 m2 c2)
 clear z0 z1 z2 u0 u1 u2
 generalize ((w1.setCell ⟨w.heap.size + 2, 0, none⟩ (.int .u8 T)).setCell ⟨w.heap.size + 2, 1, none⟩ (.slice A1 m1 c1)).setCell ⟨w.heap.size + 2, 2, none⟩ (.slice A2 m2 c2) = W at kb kr kn hV1 hV2 hB ⊢
 have b0 : W.cell? ⟨w.heap.size, 0, none⟩ = some (.int .i64 i) := (blk_cell kb 0).trans rfl
 have b1 : W.cell? ⟨w.heap.size, 1, none⟩ = some (.slice Ab nb cb) := (blk_cell kb 1).trans rfl
 have b2 : W.cell? ⟨w.heap.size, 2, none⟩ = some (.string r) := (blk_cell kb 2).trans rfl
 have b3 : W.cell? ⟨w.heap.size, 3, none⟩ = some (.slice Al nl cl) := (blk_cell kb 3).trans rfl
 have b4 : W.cell? ⟨w.heap.size, 4, none⟩ = some (.string sr) := (blk_cell kb 4).trans rfl
 have b5 : W.cell? ⟨w.heap.size, 5, none⟩ = some (.slice As ns cs) := (blk_cell kb 5).trans rfl
 have b6 : W.cell? ⟨w.heap.size, 6, none⟩ = some (.int .i64 e) := (blk_cell kb 6).trans rfl
 have x0 : W.cell? ⟨w.heap.size + 2, 0, none⟩ = some (.int .u8 T) := (blk_cell kn 0).trans rfl
 have x1 : W.cell? ⟨w.heap.size + 2, 1, none⟩ = some (.slice A1 m1 c1) := (blk_cell kn 1).trans rfl
 have x2 : W.cell? ⟨w.heap.size + 2, 2, none⟩ = some (.slice A2 m2 c2) := (blk_cell kn 2).trans rfl
 have r0 := (blk_cell kr 0).trans rfl
 have y0 := blk_frozen kr 0
 have r1 := (blk_cell kr 1).trans rfl
 have y1 := blk_frozen kr 1
 have r2 := (blk_cell kr 2).trans rfl
 have y2 := blk_frozen kr 2
 have PK := Aside0.mk (And.intro (fun (w' : World) (hb : Below W.heap.size W w') => blk_below kr hb) (And.intro (fun (w' : World) (hb : Below W.heap.size W w') => blk_below kb hb) (And.intro (fun (w' : World) (hb : Below W.heap.size W w') => blk_below kn hb) (And.intro hV1 (And.intro hV2 hB)))))
 have PW0 := Aside0.mk (And.intro (Below.refl W.heap.size W) kr)
 clear kb kr kn hV1 hV2 hB P1 hlt
 go_region
 go_wp2
 have kf := put3 PW0.out.2 (.int .u8 T) (.slice A1 m1 c1) (.slice A2 m2 c2)
 refine bodyPost_ret (results_ct rfl _ _ (w.heap.size + 1) 45 #[.int .u8 T, .slice A1 m1 c1, .slice A2 m2 c2] (0, 0) _ rfl (by first | exact kf | exact blk_drew kf) Tryd.underlying45 rfl (by kernel_rfl)) rfl ?_
 have hk1 : ∀ k, (start3 w #[.int .i64 i, .slice Ab nb cb, .string r, .slice Al nl cl, .string sr, .slice As ns cs, .int .i64 e]).heap.size ≤ k → k ≠ w.heap.size + 1 := fun k hk => by rw [start3_size] at hk; omega
 have hk2 : ∀ k, (start3 w #[.int .i64 i, .slice Ab nb cb, .string r, .slice Al nl cl, .string sr, .slice As ns cs, .int .i64 e]).heap.size ≤ k → w.heap.size ≤ k := fun k hk => by rw [start3_size] at hk; omega
 have q1 := far3 (Kd.V_below PK.out.2.2.2.1 PW0.out.1) hk1 (.int .u8 T) (.slice A1 m1 c1) (.slice A2 m2 c2)
 have q2 := far3 (Kd.V_below PK.out.2.2.2.2.1 PW0.out.1) hk1 (.int .u8 T) (.slice A1 m1 c1) (.slice A2 m2 c2)
 have q3 := set3 (below_step PK.out.2.2.2.2.2 PW0.out.1) (Nat.le_succ w.heap.size) (.int .u8 T) (.slice A1 m1 c1) (.slice A2 m2 c2)
 exact ⟨_, _, rfl, by first | exact Kd.V_mono q1 hk2 | exact Kd.V_drew (Kd.V_mono q1 hk2), by first | exact Kd.V_mono q2 hk2 | exact Kd.V_drew (Kd.V_mono q2 hk2), by first | exact q3 | exact below_drew1 q3⟩
set_option maxHeartbeats 8000000 in
set_option maxRecDepth 100000 in
theorem state_ticket (T : Int) (body : List Int) (kids : List S45) (i : Int) (Ab : Option Addr) (cb : Nat) (b : List Int) (r : ByteArray) (Al : Option Addr) (cl : Nat) (l : List ByteArray) (sr : ByteArray) (As : Option Addr) (cs : Nat) (sl : List ByteArray) (e : Int) (w : World)
  (hN : ∀ W, Below w.heap.size w W → Calls Tryd.prog 16 #[.agg #[.string sr, .slice As sl.length cs, .int .i64 e]] W fun e' w' => ∃ v1 v2 : Value, e' = .returned (.tuple #[.agg #[.int .u8 T, v1, v2], .int .i64 0]) ∧ Kd.V (Kd.int .u8) 5 w' W.heap.size (fun k => W.heap.size ≤ k) v1 body ∧ Kd.V k45 45 w' W.heap.size (fun k => W.heap.size ≤ k) v2 kids ∧ Below W.heap.size W w') :
  Calls Tryd.prog 9 #[anyV 6, .agg #[.int .i64 i, .slice Ab b.length cb, .string r, .slice Al l.length cl, .string sr, .slice As sl.length cs, .int .i64 e]] w fun e' w' => ∃ v1 v2 : Value, e' = .returned (.tuple #[.agg #[.int .u8 T, v1, v2], .bool (blankB i b r l sr sl e 107)]) ∧ Kd.V (Kd.int .u8) 5 w' w.heap.size (fun k => w.heap.size ≤ k) v1 body ∧ Kd.V k45 45 w' w.heap.size (fun k => w.heap.size ≤ k) v2 kids ∧ Below w.heap.size w w' := by
 have PN := Aside0.mk hN
 have PB := Aside0.mk (fun W => blank_107 i Ab cb b r Al cl l sr As cs sl e W)
 have t0 := any_ta6_0
 have t1 := any_ta6_1
 have t2 := any_ta6_2
 have t4 := any_ta6_4
 have t3 := any_ta6_3
 have t5 := any_ta6_5
 generalize blankB i b r l sr sl e 107 = P at PB ⊢
 generalize b.length = nb at PN PB ⊢
 generalize l.length = nl at PN PB ⊢
 generalize sl.length = ns at PN PB ⊢
 obtain ⟨X, hX⟩ : ∃ X, X = anyV 6 := ⟨_, rfl⟩
 rw [← hX] at t0 t1 t2 t4 t3 t5 ⊢
 clear hX hN
 go_enter Tryd.func9, Tryd.ntmps9
 go_wp2_with (go_at_call 16; refine (PN.out _ (start3_below w #[.int .i64 i, .slice Ab nb cb, .string r, .slice Al nl cl, .string sr, .slice As ns cs, .int .i64 e])).mono ?_; rintro e' w1 ⟨v1, v2, rfl, hV1, hV2, hb⟩; obtain ⟨A1, c1, rfl⟩ := Kd.V_slice hV1; obtain ⟨A2, c2, rfl⟩ := Kd.V_slice hV2; generalize hm1 : body.length = m1 at hV1 ⊢; generalize hm2 : kids.length = m2 at hV2 ⊢; have P1 := Aside0.mk (And.intro hV1 (And.intro hV2 hb)); have k2 := blk_below (start3_2 w #[.int .i64 i, .slice Ab nb cb, .string r, .slice Al nl cl, .string sr, .slice As ns cs, .int .i64 e]) hb; have z0 := (blk_cell k2 0).trans rfl; have z1 := (blk_cell k2 1).trans rfl; have z2 := (blk_cell k2 2).trans rfl; have u0 := blk_frozen k2 0; have u1 := blk_frozen k2 1; have u2 := blk_frozen k2 2; clear k2; clear hV1 hV2 hb hm1 hm2)
 have hlt : w.heap.size + 2 < w1.heap.size := blk_lt (blk_below (start3_2 w #[.int .i64 i, .slice Ab nb cb, .string r, .slice Al nl cl, .string sr, .slice As ns cs, .int .i64 e]) P1.out.2.2)
 have kb := off3 (blk_below (start3_0 w #[.int .i64 i, .slice Ab nb cb, .string r, .slice Al nl cl, .string sr, .slice As ns cs, .int .i64 e]) P1.out.2.2) (show w.heap.size ≠ w.heap.size + 2 by omega) (.int .u8 T) (.slice A1 m1 c1) (.slice A2 m2 c2)
 have kr := off3 (blk_below (start3_1 w #[.int .i64 i, .slice Ab nb cb, .string r, .slice Al nl cl, .string sr, .slice As ns cs, .int .i64 e]) P1.out.2.2) (show w.heap.size + 1 ≠ w.heap.size + 2 by omega) (.int .u8 T) (.slice A1 m1 c1) (.slice A2 m2 c2)
 have kn := put3 (blk_below (start3_2 w #[.int .i64 i, .slice Ab nb cb, .string r, .slice Al nl cl, .string sr, .slice As ns cs, .int .i64 e]) P1.out.2.2) (.int .u8 T) (.slice A1 m1 c1) (.slice A2 m2 c2)
 have hV1 := far3 P1.out.1 (g := w.heap.size + 2) (fun k hk => by rw [start3_size] at hk; omega) (.int .u8 T) (.slice A1 m1 c1) (.slice A2 m2 c2)
 have hV2 := far3 P1.out.2.1 (g := w.heap.size + 2) (fun k hk => by rw [start3_size] at hk; omega) (.int .u8 T) (.slice A1 m1 c1) (.slice A2 m2 c2)
 have hB := set3 (g := w.heap.size + 2) (below_step (start3_below w #[.int .i64 i, .slice Ab nb cb, .string r, .slice Al nl cl, .string sr, .slice As ns cs, .int .i64 e]) P1.out.2.2) (by omega) (.int .u8 T) (.slice A1 m1 c1) (.slice A2 m2 c2)
 clear z0 z1 z2 u0 u1 u2
 generalize ((w1.setCell ⟨w.heap.size + 2, 0, none⟩ (.int .u8 T)).setCell ⟨w.heap.size + 2, 1, none⟩ (.slice A1 m1 c1)).setCell ⟨w.heap.size + 2, 2, none⟩ (.slice A2 m2 c2) = W at kb kr kn hV1 hV2 hB ⊢
 have b0 : W.cell? ⟨w.heap.size, 0, none⟩ = some (.int .i64 i) := (blk_cell kb 0).trans rfl
 have b1 : W.cell? ⟨w.heap.size, 1, none⟩ = some (.slice Ab nb cb) := (blk_cell kb 1).trans rfl
 have b2 : W.cell? ⟨w.heap.size, 2, none⟩ = some (.string r) := (blk_cell kb 2).trans rfl
 have b3 : W.cell? ⟨w.heap.size, 3, none⟩ = some (.slice Al nl cl) := (blk_cell kb 3).trans rfl
 have b4 : W.cell? ⟨w.heap.size, 4, none⟩ = some (.string sr) := (blk_cell kb 4).trans rfl
 have b5 : W.cell? ⟨w.heap.size, 5, none⟩ = some (.slice As ns cs) := (blk_cell kb 5).trans rfl
 have b6 : W.cell? ⟨w.heap.size, 6, none⟩ = some (.int .i64 e) := (blk_cell kb 6).trans rfl
 have x0 : W.cell? ⟨w.heap.size + 2, 0, none⟩ = some (.int .u8 T) := (blk_cell kn 0).trans rfl
 have x1 : W.cell? ⟨w.heap.size + 2, 1, none⟩ = some (.slice A1 m1 c1) := (blk_cell kn 1).trans rfl
 have x2 : W.cell? ⟨w.heap.size + 2, 2, none⟩ = some (.slice A2 m2 c2) := (blk_cell kn 2).trans rfl
 have r0 := (blk_cell kr 0).trans rfl
 have y0 := blk_frozen kr 0
 have r1 := (blk_cell kr 1).trans rfl
 have y1 := blk_frozen kr 1
 have r2 := (blk_cell kr 2).trans rfl
 have y2 := blk_frozen kr 2
 have PK := Aside0.mk (And.intro (fun (w' : World) (hb : Below W.heap.size W w') => blk_below kr hb) (And.intro (fun (w' : World) (hb : Below W.heap.size W w') => blk_below kb hb) (And.intro (fun (w' : World) (hb : Below W.heap.size W w') => blk_below kn hb) (And.intro hV1 (And.intro hV2 hB)))))
 have PW0 := Aside0.mk (And.intro (Below.refl W.heap.size W) kr)
 clear kb kr kn hV1 hV2 hB P1 hlt
 go_region_held3 (fun w' => w'.cell? ⟨w.heap.size, 0, none⟩ = some (.int .i64 i) ∧ w'.cell? ⟨w.heap.size, 1, none⟩ = some (.slice Ab nb cb) ∧ w'.cell? ⟨w.heap.size, 2, none⟩ = some (.string r) ∧ w'.cell? ⟨w.heap.size, 3, none⟩ = some (.slice Al nl cl) ∧ w'.cell? ⟨w.heap.size, 4, none⟩ = some (.string sr) ∧ w'.cell? ⟨w.heap.size, 5, none⟩ = some (.slice As ns cs) ∧ w'.cell? ⟨w.heap.size, 6, none⟩ = some (.int .i64 e) ∧ w'.cell? ⟨w.heap.size + 2, 0, none⟩ = some (.int .u8 T) ∧ w'.cell? ⟨w.heap.size + 2, 1, none⟩ = some (.slice A1 m1 c1) ∧ w'.cell? ⟨w.heap.size + 2, 2, none⟩ = some (.slice A2 m2 c2)) (go_keep) (first | (go_at_call 14; refine (PB.out _).mono ?_; rintro e' w' ⟨rfl, hb⟩; have hbW : Below W.heap.size W w' := (by first | exact hb | exact below_step (below_drew1 (Below.refl _ _)) hb); have kb2 := PK.out.2.1 w' hbW; have kr2 := PK.out.1 w' hbW; have kn2 := PK.out.2.2.1 w' hbW; have b20 := (blk_cell kb2 0).trans rfl; have b21 := (blk_cell kb2 1).trans rfl; have b22 := (blk_cell kb2 2).trans rfl; have b23 := (blk_cell kb2 3).trans rfl; have b24 := (blk_cell kb2 4).trans rfl; have b25 := (blk_cell kb2 5).trans rfl; have b26 := (blk_cell kb2 6).trans rfl; have x20 := (blk_cell kn2 0).trans rfl; have r20 := (blk_cell kr2 0).trans rfl; have y20 := blk_frozen kr2 0; have x21 := (blk_cell kn2 1).trans rfl; have r21 := (blk_cell kr2 1).trans rfl; have y21 := blk_frozen kr2 1; have x22 := (blk_cell kn2 2).trans rfl; have r22 := (blk_cell kr2 2).trans rfl; have y22 := blk_frozen kr2 2; have PW := Aside0.mk (And.intro hbW kr2); clear hb hbW kb2 kr2 kn2))
 go_wp2
 have kf := put3 PW.out.2 (.int .u8 T) (.slice A1 m1 c1) (.slice A2 m2 c2)
 refine bodyPost_ret (results_ct rfl _ _ (w.heap.size + 1) 45 #[.int .u8 T, .slice A1 m1 c1, .slice A2 m2 c2] (0, 0) _ rfl (by first | exact kf | exact blk_drew kf) Tryd.underlying45 rfl (by kernel_rfl)) rfl ?_
 have hk1 : ∀ k, (start3 w #[.int .i64 i, .slice Ab nb cb, .string r, .slice Al nl cl, .string sr, .slice As ns cs, .int .i64 e]).heap.size ≤ k → k ≠ w.heap.size + 1 := fun k hk => by rw [start3_size] at hk; omega
 have hk2 : ∀ k, (start3 w #[.int .i64 i, .slice Ab nb cb, .string r, .slice Al nl cl, .string sr, .slice As ns cs, .int .i64 e]).heap.size ≤ k → w.heap.size ≤ k := fun k hk => by rw [start3_size] at hk; omega
 have q1 := far3 (Kd.V_below PK.out.2.2.2.1 PW.out.1) hk1 (.int .u8 T) (.slice A1 m1 c1) (.slice A2 m2 c2)
 have q2 := far3 (Kd.V_below PK.out.2.2.2.2.1 PW.out.1) hk1 (.int .u8 T) (.slice A1 m1 c1) (.slice A2 m2 c2)
 have q3 := set3 (below_step PK.out.2.2.2.2.2 PW.out.1) (Nat.le_succ w.heap.size) (.int .u8 T) (.slice A1 m1 c1) (.slice A2 m2 c2)
 exact ⟨_, _, rfl, by first | exact Kd.V_mono q1 hk2 | exact Kd.V_drew (Kd.V_mono q1 hk2), by first | exact Kd.V_mono q2 hk2 | exact Kd.V_drew (Kd.V_mono q2 hk2), by first | exact q3 | exact below_drew1 q3⟩
set_option maxHeartbeats 8000000 in
set_option maxRecDepth 100000 in
theorem state_ticket_no (T : Int) (body : List Int) (kids : List S45) (E : Int) (hE : E ≠ 0) (i : Int) (Ab : Option Addr) (cb : Nat) (b : List Int) (r : ByteArray) (Al : Option Addr) (cl : Nat) (l : List ByteArray) (sr : ByteArray) (As : Option Addr) (cs : Nat) (sl : List ByteArray) (e : Int) (w : World)
  (hN : ∀ W, Below w.heap.size w W → Calls Tryd.prog 16 #[.agg #[.string sr, .slice As sl.length cs, .int .i64 e]] W fun e' w' => ∃ v1 v2 : Value, e' = .returned (.tuple #[.agg #[.int .u8 T, v1, v2], .int .i64 E]) ∧ Kd.V (Kd.int .u8) 5 w' W.heap.size (fun k => W.heap.size ≤ k) v1 body ∧ Kd.V k45 45 w' W.heap.size (fun k => W.heap.size ≤ k) v2 kids ∧ Below W.heap.size W w') :
  Calls Tryd.prog 9 #[anyV 6, .agg #[.int .i64 i, .slice Ab b.length cb, .string r, .slice Al l.length cl, .string sr, .slice As sl.length cs, .int .i64 e]] w fun e' w' => ∃ v1 v2 : Value, e' = .returned (.tuple #[.agg #[.int .u8 T, v1, v2], .bool false]) ∧ Kd.V (Kd.int .u8) 5 w' w.heap.size (fun k => w.heap.size ≤ k) v1 body ∧ Kd.V k45 45 w' w.heap.size (fun k => w.heap.size ≤ k) v2 kids ∧ Below w.heap.size w w' := by
 have PN := Aside0.mk hN
 have t0 := any_ta6_0
 have t1 := any_ta6_1
 have t2 := any_ta6_2
 have t4 := any_ta6_4
 have t3 := any_ta6_3
 have t5 := any_ta6_5
 generalize b.length = nb at PN ⊢
 generalize l.length = nl at PN ⊢
 generalize sl.length = ns at PN ⊢
 obtain ⟨X, hX⟩ : ∃ X, X = anyV 6 := ⟨_, rfl⟩
 rw [← hX] at t0 t1 t2 t4 t3 t5 ⊢
 clear hX hN
 have hE0 : (E == 0) = false := beq_eq_false_iff_ne.mpr hE
 clear hE
 go_enter Tryd.func9, Tryd.ntmps9
 go_wp2_with (go_at_call 16; refine (PN.out _ (start3_below w #[.int .i64 i, .slice Ab nb cb, .string r, .slice Al nl cl, .string sr, .slice As ns cs, .int .i64 e])).mono ?_; rintro e' w1 ⟨v1, v2, rfl, hV1, hV2, hb⟩; obtain ⟨A1, c1, rfl⟩ := Kd.V_slice hV1; obtain ⟨A2, c2, rfl⟩ := Kd.V_slice hV2; generalize hm1 : body.length = m1 at hV1 ⊢; generalize hm2 : kids.length = m2 at hV2 ⊢; have P1 := Aside0.mk (And.intro hV1 (And.intro hV2 hb)); have k2 := blk_below (start3_2 w #[.int .i64 i, .slice Ab nb cb, .string r, .slice Al nl cl, .string sr, .slice As ns cs, .int .i64 e]) hb; have z0 := (blk_cell k2 0).trans rfl; have z1 := (blk_cell k2 1).trans rfl; have z2 := (blk_cell k2 2).trans rfl; have u0 := blk_frozen k2 0; have u1 := blk_frozen k2 1; have u2 := blk_frozen k2 2; clear k2; clear hV1 hV2 hb hm1 hm2)
 have hlt : w.heap.size + 2 < w1.heap.size := blk_lt (blk_below (start3_2 w #[.int .i64 i, .slice Ab nb cb, .string r, .slice Al nl cl, .string sr, .slice As ns cs, .int .i64 e]) P1.out.2.2)
 have kb := off3 (blk_below (start3_0 w #[.int .i64 i, .slice Ab nb cb, .string r, .slice Al nl cl, .string sr, .slice As ns cs, .int .i64 e]) P1.out.2.2) (show w.heap.size ≠ w.heap.size + 2 by omega) (.int .u8 T) (.slice A1 m1 c1) (.slice A2 m2 c2)
 have kr := off3 (blk_below (start3_1 w #[.int .i64 i, .slice Ab nb cb, .string r, .slice Al nl cl, .string sr, .slice As ns cs, .int .i64 e]) P1.out.2.2) (show w.heap.size + 1 ≠ w.heap.size + 2 by omega) (.int .u8 T) (.slice A1 m1 c1) (.slice A2 m2 c2)
 have kn := put3 (blk_below (start3_2 w #[.int .i64 i, .slice Ab nb cb, .string r, .slice Al nl cl, .string sr, .slice As ns cs, .int .i64 e]) P1.out.2.2) (.int .u8 T) (.slice A1 m1 c1) (.slice A2 m2 c2)
 have hV1 := far3 P1.out.1 (g := w.heap.size + 2) (fun k hk => by rw [start3_size] at hk; omega) (.int .u8 T) (.slice A1 m1 c1) (.slice A2 m2 c2)
 have hV2 := far3 P1.out.2.1 (g := w.heap.size + 2) (fun k hk => by rw [start3_size] at hk; omega) (.int .u8 T) (.slice A1 m1 c1) (.slice A2 m2 c2)
 have hB := set3 (g := w.heap.size + 2) (below_step (start3_below w #[.int .i64 i, .slice Ab nb cb, .string r, .slice Al nl cl, .string sr, .slice As ns cs, .int .i64 e]) P1.out.2.2) (by omega) (.int .u8 T) (.slice A1 m1 c1) (.slice A2 m2 c2)
 clear z0 z1 z2 u0 u1 u2
 generalize ((w1.setCell ⟨w.heap.size + 2, 0, none⟩ (.int .u8 T)).setCell ⟨w.heap.size + 2, 1, none⟩ (.slice A1 m1 c1)).setCell ⟨w.heap.size + 2, 2, none⟩ (.slice A2 m2 c2) = W at kb kr kn hV1 hV2 hB ⊢
 have b0 : W.cell? ⟨w.heap.size, 0, none⟩ = some (.int .i64 i) := (blk_cell kb 0).trans rfl
 have b1 : W.cell? ⟨w.heap.size, 1, none⟩ = some (.slice Ab nb cb) := (blk_cell kb 1).trans rfl
 have b2 : W.cell? ⟨w.heap.size, 2, none⟩ = some (.string r) := (blk_cell kb 2).trans rfl
 have b3 : W.cell? ⟨w.heap.size, 3, none⟩ = some (.slice Al nl cl) := (blk_cell kb 3).trans rfl
 have b4 : W.cell? ⟨w.heap.size, 4, none⟩ = some (.string sr) := (blk_cell kb 4).trans rfl
 have b5 : W.cell? ⟨w.heap.size, 5, none⟩ = some (.slice As ns cs) := (blk_cell kb 5).trans rfl
 have b6 : W.cell? ⟨w.heap.size, 6, none⟩ = some (.int .i64 e) := (blk_cell kb 6).trans rfl
 have x0 : W.cell? ⟨w.heap.size + 2, 0, none⟩ = some (.int .u8 T) := (blk_cell kn 0).trans rfl
 have x1 : W.cell? ⟨w.heap.size + 2, 1, none⟩ = some (.slice A1 m1 c1) := (blk_cell kn 1).trans rfl
 have x2 : W.cell? ⟨w.heap.size + 2, 2, none⟩ = some (.slice A2 m2 c2) := (blk_cell kn 2).trans rfl
 have r0 := (blk_cell kr 0).trans rfl
 have y0 := blk_frozen kr 0
 have r1 := (blk_cell kr 1).trans rfl
 have y1 := blk_frozen kr 1
 have r2 := (blk_cell kr 2).trans rfl
 have y2 := blk_frozen kr 2
 have PK := Aside0.mk (And.intro (fun (w' : World) (hb : Below W.heap.size W w') => blk_below kr hb) (And.intro (fun (w' : World) (hb : Below W.heap.size W w') => blk_below kb hb) (And.intro (fun (w' : World) (hb : Below W.heap.size W w') => blk_below kn hb) (And.intro hV1 (And.intro hV2 hB)))))
 have PW0 := Aside0.mk (And.intro (Below.refl W.heap.size W) kr)
 clear kb kr kn hV1 hV2 hB P1 hlt
 go_region
 go_wp2
 have kf := put3 PW0.out.2 (.int .u8 T) (.slice A1 m1 c1) (.slice A2 m2 c2)
 refine bodyPost_ret (results_ct rfl _ _ (w.heap.size + 1) 45 #[.int .u8 T, .slice A1 m1 c1, .slice A2 m2 c2] (0, 0) _ rfl (by first | exact kf | exact blk_drew kf) Tryd.underlying45 rfl (by kernel_rfl)) rfl ?_
 have hk1 : ∀ k, (start3 w #[.int .i64 i, .slice Ab nb cb, .string r, .slice Al nl cl, .string sr, .slice As ns cs, .int .i64 e]).heap.size ≤ k → k ≠ w.heap.size + 1 := fun k hk => by rw [start3_size] at hk; omega
 have hk2 : ∀ k, (start3 w #[.int .i64 i, .slice Ab nb cb, .string r, .slice Al nl cl, .string sr, .slice As ns cs, .int .i64 e]).heap.size ≤ k → w.heap.size ≤ k := fun k hk => by rw [start3_size] at hk; omega
 have q1 := far3 (Kd.V_below PK.out.2.2.2.1 PW0.out.1) hk1 (.int .u8 T) (.slice A1 m1 c1) (.slice A2 m2 c2)
 have q2 := far3 (Kd.V_below PK.out.2.2.2.2.1 PW0.out.1) hk1 (.int .u8 T) (.slice A1 m1 c1) (.slice A2 m2 c2)
 have q3 := set3 (below_step PK.out.2.2.2.2.2 PW0.out.1) (Nat.le_succ w.heap.size) (.int .u8 T) (.slice A1 m1 c1) (.slice A2 m2 c2)
 exact ⟨_, _, rfl, by first | exact Kd.V_mono q1 hk2 | exact Kd.V_drew (Kd.V_mono q1 hk2), by first | exact Kd.V_mono q2 hk2 | exact Kd.V_drew (Kd.V_mono q2 hk2), by first | exact q3 | exact below_drew1 q3⟩
end Go.Proofs.YtncanijjnhkgbaaDoor.PMsgsUnlike
