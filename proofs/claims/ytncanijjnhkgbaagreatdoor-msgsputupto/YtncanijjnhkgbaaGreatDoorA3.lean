/- A part of the proof of the law MsgsPut, put together by a program of this seat's prover (wip/pack.py): its own texts, what a changed copy of the kit's printer (wip/mkprint.py) printed. No condition. -/
import Derived.Test.YtncanijjnhkgbaaGreatDoorA2
import Derived.Defers
import Derived.Recover
import Derived.Lib.ConvBytes
import Derived.Test.YtncanijjnhkgbaaGreatDoorRows
import Derived.WalkKit
import Derived.ProofKit
import Derived.OpenShut
import Derived.Deep.Slices
import Derived.Deep.Strs
import Derived.Carry
import Derived.Deep.DeepHandedRow
import Derived.Lib.LaidTab
import Derived.KernelRfl
set_option linter.unusedVariables false
set_option linter.unusedSimpArgs false
namespace Go.Proofs.YtncanijjnhkgbaaGreatDoor.PMsgsPut
open Go.RowKit Go.Proofs.YtncanijjnhkgbaaGreatDoorW.PrintWords Go.Proofs.YtncanijjnhkgbaaGreatDoorW.PrintLast Go.Proofs.YtncanijjnhkgbaaGreatDoorW.PrintMore
attribute [local go_sem] max2_int min2_int max_two min_two max_three min_three max_four min_four
set_option linter.unusedVariables false
set_option linter.unusedSimpArgs false
mutual
noncomputable def nodes_right.j0 : Nat → Int → List Int → Int → Int → Bool → Option (Bool)
 | 0, _, _, _, _, _ => none
 | k + 1, x0, x1, x5, x7, x29 => if x29 = true then ((texts_Time.f x0 x1).bind fun bt248 => (some (bt248.2 == 0))) else (if x7 = 5 then (none) else (if x7 = 12 then (nodes_right.j1 k x0 x1 x5 x7 (x7 == 12)) else (if x7 = 19 then (nodes_right.j1 k x0 x1 x5 x7 (x7 == 19)) else (if x7 = 22 then (nodes_right.j1 k x0 x1 x5 x7 (x7 == 22)) else (nodes_right.j1 k x0 x1 x5 x7 (x7 == 27))))))
noncomputable def nodes_right.j1 : Nat → Int → List Int → Int → Int → Bool → Option (Bool)
 | 0, _, _, _, _, _ => none
 | k + 1, x0, x1, x5, x7, x43 => if x43 = true then ((texts_Right.f x0 x1).bind fun t250 => (some t250)) else (if x7 = 3 then (none) else (some (x5 == 0)))
end
noncomputable def nodes_right.f (k : Nat) (a0 : Int) (l1 : List Int) : Option (Bool) := if a0 = 1 then ((ints_Bool.f l1).bind fun bt244 => (some (bt244.2 == 0))) else (if a0 = 2 then ((ints_Int.f l1).bind fun bt246 => (some (bt246.2 == 0))) else (if a0 = 6 then (none) else (if a0 = 23 then (nodes_right.j0 k a0 l1 0 a0 (a0 == 23)) else (nodes_right.j0 k a0 l1 0 a0 (a0 == 24)))))
theorem nodes_right.mono_l : ∀ k, (∀ y0 y1 y2 y3 y4, LeO (nodes_right.j0 k y0 y1 y2 y3 y4) (nodes_right.j0 (k + 1) y0 y1 y2 y3 y4)) ∧ (∀ y0 y1 y2 y3 y4, LeO (nodes_right.j1 k y0 y1 y2 y3 y4) (nodes_right.j1 (k + 1) y0 y1 y2 y3 y4))
 | 0 => ⟨fun _ _ _ _ _ r h => by simp [nodes_right.j0] at h, fun _ _ _ _ _ r h => by simp [nodes_right.j1] at h⟩
 | k + 1 => by
  obtain ⟨ih0, ih1⟩ := nodes_right.mono_l k
  refine ⟨?_, ?_⟩
  ·intro y0 y1 y2 y3 y4
   unfold nodes_right.j0
   repeat' first
   | (with_reducible exact ih0 _ _ _ _ _)
   | (with_reducible exact ih1 _ _ _ _ _)
   | (with_reducible exact LeO.refl _)
   | (with_reducible exact LeO.none _)
   | (with_reducible refine LeO.ite ?_ ?_)
   | (with_reducible refine LeO.bind ?_ (fun _ => ?_))
   | exact ih0 _ _ _ _ _
   | exact ih1 _ _ _ _ _
   | exact LeO.none _
   | refine LeO.ite ?_ ?_
   | refine LeO.bind ?_ (fun _ => ?_)
  ·intro y0 y1 y2 y3 y4
   unfold nodes_right.j1
   repeat' first
   | (with_reducible exact ih0 _ _ _ _ _)
   | (with_reducible exact ih1 _ _ _ _ _)
   | (with_reducible exact LeO.refl _)
   | (with_reducible exact LeO.none _)
   | (with_reducible refine LeO.ite ?_ ?_)
   | (with_reducible refine LeO.bind ?_ (fun _ => ?_))
   | exact ih0 _ _ _ _ _
   | exact ih1 _ _ _ _ _
   | exact LeO.none _
   | refine LeO.ite ?_ ?_
   | refine LeO.bind ?_ (fun _ => ?_)
theorem nodes_right.mono : ∀ a0 a1 k, LeO (nodes_right.f k a0 a1) (nodes_right.f (k + 1) a0 a1) := by
 intro a0 a1 k
 obtain ⟨ih0, ih1⟩ := nodes_right.mono_l k
 unfold nodes_right.f
 repeat' first
   | (with_reducible exact ih0 _ _ _ _ _)
   | (with_reducible exact ih1 _ _ _ _ _)
   | (with_reducible exact LeO.refl _)
   | (with_reducible exact LeO.none _)
   | (with_reducible refine LeO.ite ?_ ?_)
   | (with_reducible refine LeO.bind ?_ (fun _ => ?_))
   | exact ih0 _ _ _ _ _
   | exact ih1 _ _ _ _ _
   | exact LeO.none _
   | refine LeO.ite ?_ ?_
   | refine LeO.bind ?_ (fun _ => ?_)
set_option maxHeartbeats 8000000 in
set_option maxRecDepth 100000 in
theorem nodes_right.calls (k : Nat) (a0 : Int) (A1 : Option Addr) (c1 : Nat) (l1 : List Int) (r : Bool) (w : World) (hr1 : Kd.C (Kd.int .u8) w A1 l1.length l1) (hc1 : l1.length ≤ c1) (h : nodes_right.f k a0 l1 = some r) :
  Calls Tryz.prog 54 #[.int .u8 a0, .slice A1 l1.length c1] w fun e w' => e = .returned (.bool r) ∧ Below w.heap.size w w' := by
 have HR1 := Aside0.mk hr1
 have HC1 := Aside0.mk hc1
 clear hr1 hc1
 have HB := Aside0.mk (Below.refl w.heap.size w)
 have H : (if a0 = 1 then ((ints_Bool.f l1).bind fun bt244 => (some (bt244.2 == 0))) else (if a0 = 2 then ((ints_Int.f l1).bind fun bt246 => (some (bt246.2 == 0))) else (if a0 = 6 then (none) else (if a0 = 23 then (nodes_right.j0 k a0 l1 0 a0 (a0 == 23)) else (nodes_right.j0 k a0 l1 0 a0 (a0 == 24)))))) = some r := h
 clear h
 by_cases c3 : a0 = 1
 ·rw [if_pos c3] at H
  have c3b0 : (a0 == 1) = true := beq_iff_eq.mpr c3
  have c3b1 : (a0 != 1) = false := bne_eq_false_iff_eq.mpr c3
  clear c3
  replace H := Option.bind_eq_some_iff.mp H
  obtain ⟨⟨t244, t245⟩, A40, H⟩ := H
  replace H : (some (t245 == 0)) = some r := H
  have A4 := Aside0.mk A40
  clear A40
  obtain rfl := Option.some.inj H
  go_enter Tryz.func54, Tryz.ntmps54
  go_wp2_with (first | ((with_reducible refine gate_callee (f := 83) rfl ?_); refine goesL_ (some 12) rfl rfl Tryz.func83 (by kernel_rfl) rfl #[.slice A1 l1.length c1] rfl (by (try simp only [List.map_toArray, List.map_cons, List.map_nil]); first | done | rfl | (simp only [List.length_drop, List.length_take]; rfl)) ?_; (with_reducible refine (ints_Bool.calls _ _ l1 t244 t245 _ ?side1 ?side2 A4.out).mono ?_); (case side1 => repeat (first | exact HR1.out | (with_reducible refine Kd.C_alloc ?_ _) | (with_reducible refine Kd.C_drewN ?_ _) | (with_reducible refine Kd.C_drew ?_))); (case side2 => exact HC1.out); rintro e w5 ⟨rfl, hb⟩; refine ⟨_, rfl, ?_⟩; have n0_ := Aside0.mk (below_step (by repeat (first | (with_reducible first | exact HB.out | apply below_alloc | apply pw_below_drewN | apply below_drew1) | exact HB.out)) hb); clear HB; have HB := n0_; clear n0_; (try clear hb); (try clear hb2); (try clear hk); (try clear hi)))
  go_ret
  exact ⟨by first | rfl | (simp [errW_none, errW_some] <;> rfl) | (simp [*, errW_none, errW_some] <;> rfl), by repeat (first | (with_reducible first | exact HB.out | apply below_alloc | apply pw_below_drewN | apply below_drew1) | exact HB.out)⟩
 ·rw [if_neg c3] at H
  have c3b0 : (a0 == 1) = false := beq_eq_false_iff_ne.mpr c3
  have c3b1 : (a0 != 1) = true := bne_iff_ne.mpr c3
  by_cases c6 : a0 = 2
  ·rw [if_pos c6] at H
   have c6b0 : (a0 == 2) = true := beq_iff_eq.mpr c6
   have c6b1 : (a0 != 2) = false := bne_eq_false_iff_eq.mpr c6
   clear c6
   replace H := Option.bind_eq_some_iff.mp H
   obtain ⟨⟨t246, t247⟩, A70, H⟩ := H
   replace H : (some (t247 == 0)) = some r := H
   have A7 := Aside0.mk A70
   clear A70
   obtain rfl := Option.some.inj H
   go_enter Tryz.func54, Tryz.ntmps54
   go_wp2_with (first | ((with_reducible refine gate_callee (f := 84) rfl ?_); refine goesL_ (some 19) rfl rfl Tryz.func84 (by kernel_rfl) rfl #[.slice A1 l1.length c1] rfl (by (try simp only [List.map_toArray, List.map_cons, List.map_nil]); first | done | rfl | (simp only [List.length_drop, List.length_take]; rfl)) ?_; (with_reducible refine (ints_Int.calls _ _ l1 t246 t247 _ ?side1 ?side2 A7.out).mono ?_); (case side1 => repeat (first | exact HR1.out | (with_reducible refine Kd.C_alloc ?_ _) | (with_reducible refine Kd.C_drewN ?_ _) | (with_reducible refine Kd.C_drew ?_))); (case side2 => exact HC1.out); rintro e w8 ⟨rfl, hb⟩; refine ⟨_, rfl, ?_⟩; have n0_ := Aside0.mk (below_step (by repeat (first | (with_reducible first | exact HB.out | apply below_alloc | apply pw_below_drewN | apply below_drew1) | exact HB.out)) hb); clear HB; have HB := n0_; clear n0_; (try clear hb); (try clear hb2); (try clear hk); (try clear hi)))
   go_ret
   exact ⟨by first | rfl | (simp [errW_none, errW_some] <;> rfl) | (simp [*, errW_none, errW_some] <;> rfl), by repeat (first | (with_reducible first | exact HB.out | apply below_alloc | apply pw_below_drewN | apply below_drew1) | exact HB.out)⟩
  ·rw [if_neg c6] at H
   have c6b0 : (a0 == 2) = false := beq_eq_false_iff_ne.mpr c6
   have c6b1 : (a0 != 2) = true := bne_iff_ne.mpr c6
   by_cases c9 : a0 = 6
   ·rw [if_pos c9] at H
    exact absurd H (by simp)
   ·rw [if_neg c9] at H
    have c9b0 : (a0 == 6) = false := beq_eq_false_iff_ne.mpr c9
    have c9b1 : (a0 != 6) = true := bne_iff_ne.mpr c9
    have HC10 := Aside0.mk H
    clear H
    go_enter Tryz.func54, Tryz.ntmps54
    go_upto_if 29 with (fail)
    go_cut [29] (fun v29 wc => ∃ (kq : Nat) (x29_9 : Bool), v29 = .bool x29_9 ∧ Aside0 (nodes_right.j0 kq a0 l1 0 a0 x29_9 = some r) ∧ Aside0 (kq ≤ k) ∧ Aside0 (Below w.heap.size w wc))
    case first =>
     have H := HC10.out
     clear HC10
     by_cases c11 : a0 = 23
     ·rw [if_pos c11] at H
      have c11b0 : (a0 == 23) = true := beq_iff_eq.mpr c11
      have c11b1 : (a0 != 23) = false := bne_eq_false_iff_eq.mpr c11
      clear c11
      (first | rw [c11b0] | (simp only [i64_w, i32_w]; rw [c11b0]) | skip)
      have H' := Aside0.mk H
      clear H
      go_wp2
      go_meet
      case rel => exact ⟨_, ((a0 == 23)), (by first | rfl | (simp; done) | (simp [*]; done)), H', ⟨by first | omega | exact Nat.le_refl _⟩, ⟨by repeat (first | (with_reducible first | exact HB.out | apply below_alloc | apply pw_below_drewN | apply below_drew1) | exact HB.out)⟩⟩
     ·rw [if_neg c11] at H
      have c11b0 : (a0 == 23) = false := beq_eq_false_iff_ne.mpr c11
      have c11b1 : (a0 != 23) = true := bne_iff_ne.mpr c11
      (first | rw [c11b0] | (simp only [i64_w, i32_w]; rw [c11b0]) | skip)
      have H' := Aside0.mk H
      clear H
      go_wp2
      go_meet
      case rel => exact ⟨_, ((a0 == 24)), (by first | rfl | (simp; done) | (simp [*]; done)), H', ⟨by first | omega | exact Nat.le_refl _⟩, ⟨by repeat (first | (with_reducible first | exact HB.out | apply below_alloc | apply pw_below_drewN | apply below_drew1) | exact HB.out)⟩⟩
    case rest =>
     clear HC10
     try clear c1
     try clear p2
     try clear c3
     try clear c3b0
     try clear c3b1
     try clear c5
     try clear c6
     try clear c6b0
     try clear c6b1
     try clear c8
     try clear c9
     try clear c9b0
     try clear c9b1
     try clear c11
     try clear c11b0
     try clear c11b1
     obtain ⟨kq, x29_9, rfl, HA, HJ9, HB⟩ := hcut
     cases kq with
     | zero => exact absurd HA.out (by simp [nodes_right.j0])
     | succ kj9 =>
      have H := HA.out
      clear HA
      simp only [nodes_right.j0] at H
      by_cases c12 : x29_9 = true
      ·subst c12
       have H1 : ((texts_Time.f a0 l1).bind fun bt248 => (some (bt248.2 == 0))) = some r := by rw [if_pos rfl] at H; exact H
       clear H
       have H := H1
       clear H1
       replace H := Option.bind_eq_some_iff.mp H
       obtain ⟨⟨t248, t249⟩, A130, H⟩ := H
       replace H : (some (t249 == 0)) = some r := H
       have A13 := Aside0.mk A130
       clear A130
       obtain rfl := Option.some.inj H
       go_wp2_with (first | ((with_reducible refine gate_callee (f := 86) rfl ?_); refine goesL_ (some 35) rfl rfl Tryz.func86 (by kernel_rfl) rfl #[.int .u8 a0, .slice A1 l1.length c1] rfl (by (try simp only [List.map_toArray, List.map_cons, List.map_nil]); first | done | rfl | (simp only [List.length_drop, List.length_take]; rfl)) ?_; (with_reducible refine (texts_Time.calls a0 _ _ l1 t248 t249 _ ?side1 ?side2 A13.out).mono ?_); (case side1 => repeat (first | exact (Kd.C_below HR1.out HB.out) | (with_reducible refine Kd.C_alloc ?_ _) | (with_reducible refine Kd.C_drewN ?_ _) | (with_reducible refine Kd.C_drew ?_))); (case side2 => exact HC1.out); rintro e w14 ⟨rfl, hb⟩; refine ⟨_, rfl, ?_⟩; have n0_ := Aside0.mk (below_step (by repeat (first | (with_reducible first | exact HB.out | apply below_alloc | apply pw_below_drewN | apply below_drew1) | exact HB.out)) hb); clear HB; have HB := n0_; clear n0_; (try clear hb); (try clear hb2); (try clear hk); (try clear hi)))
       go_ret
       exact ⟨by first | rfl | (simp [errW_none, errW_some] <;> rfl) | (simp [*, errW_none, errW_some] <;> rfl), by repeat (first | (with_reducible first | exact HB.out | apply below_alloc | apply pw_below_drewN | apply below_drew1) | exact HB.out)⟩
      ·replace c12 := Bool.eq_false_iff.mpr c12
       subst c12
       have H1 : (if a0 = 5 then (none) else (if a0 = 12 then (nodes_right.j1 kj9 a0 l1 0 a0 (a0 == 12)) else (if a0 = 19 then (nodes_right.j1 kj9 a0 l1 0 a0 (a0 == 19)) else (if a0 = 22 then (nodes_right.j1 kj9 a0 l1 0 a0 (a0 == 22)) else (nodes_right.j1 kj9 a0 l1 0 a0 (a0 == 27)))))) = some r := by rw [if_neg (show ¬ (false = true) by decide)] at H; exact H
       clear H
       have H := H1
       clear H1
       by_cases c15 : a0 = 5
       ·rw [if_pos c15] at H
        exact absurd H (by simp)
       ·rw [if_neg c15] at H
        have c15b0 : (a0 == 5) = false := beq_eq_false_iff_ne.mpr c15
        have c15b1 : (a0 != 5) = true := bne_iff_ne.mpr c15
        have HC16 := Aside0.mk H
        clear H
        go_upto_if 43 with (fail)
        go_cut [43] (fun v43 wc => ∃ (kq : Nat) (x43_15 : Bool), v43 = .bool x43_15 ∧ Aside0 (nodes_right.j1 kq a0 l1 0 a0 x43_15 = some r) ∧ Aside0 (kq ≤ kj9) ∧ Aside0 (Below w.heap.size w wc))
        case first =>
         have H := HC16.out
         clear HC16
         by_cases c17 : a0 = 12
         ·rw [if_pos c17] at H
          have c17b0 : (a0 == 12) = true := beq_iff_eq.mpr c17
          have c17b1 : (a0 != 12) = false := bne_eq_false_iff_eq.mpr c17
          clear c17
          (first | rw [c17b0] | (simp only [i64_w, i32_w]; rw [c17b0]) | skip)
          have H' := Aside0.mk H
          clear H
          go_wp2
          go_meet
          case rel => exact ⟨_, ((a0 == 12)), (by first | rfl | (simp; done) | (simp [*]; done)), H', ⟨by have := HJ9.out; first | omega | exact Nat.le_refl _⟩, ⟨by repeat (first | (with_reducible first | exact HB.out | apply below_alloc | apply pw_below_drewN | apply below_drew1) | exact HB.out)⟩⟩
         ·rw [if_neg c17] at H
          have c17b0 : (a0 == 12) = false := beq_eq_false_iff_ne.mpr c17
          have c17b1 : (a0 != 12) = true := bne_iff_ne.mpr c17
          (first | rw [c17b0] | (simp only [i64_w, i32_w]; rw [c17b0]) | skip)
          by_cases c18 : a0 = 19
          ·rw [if_pos c18] at H
           have c18b0 : (a0 == 19) = true := beq_iff_eq.mpr c18
           have c18b1 : (a0 != 19) = false := bne_eq_false_iff_eq.mpr c18
           clear c18
           have H' := Aside0.mk H
           clear H
           go_wp2
           go_meet
           case rel => exact ⟨_, ((a0 == 19)), (by first | rfl | (simp; done) | (simp [*]; done)), H', ⟨by have := HJ9.out; first | omega | exact Nat.le_refl _⟩, ⟨by repeat (first | (with_reducible first | exact HB.out | apply below_alloc | apply pw_below_drewN | apply below_drew1) | exact HB.out)⟩⟩
          ·rw [if_neg c18] at H
           have c18b0 : (a0 == 19) = false := beq_eq_false_iff_ne.mpr c18
           have c18b1 : (a0 != 19) = true := bne_iff_ne.mpr c18
           by_cases c19 : a0 = 22
           ·rw [if_pos c19] at H
            have c19b0 : (a0 == 22) = true := beq_iff_eq.mpr c19
            have c19b1 : (a0 != 22) = false := bne_eq_false_iff_eq.mpr c19
            clear c19
            have H' := Aside0.mk H
            clear H
            go_wp2
            go_meet
            case rel => exact ⟨_, ((a0 == 22)), (by first | rfl | (simp; done) | (simp [*]; done)), H', ⟨by have := HJ9.out; first | omega | exact Nat.le_refl _⟩, ⟨by repeat (first | (with_reducible first | exact HB.out | apply below_alloc | apply pw_below_drewN | apply below_drew1) | exact HB.out)⟩⟩
           ·rw [if_neg c19] at H
            have c19b0 : (a0 == 22) = false := beq_eq_false_iff_ne.mpr c19
            have c19b1 : (a0 != 22) = true := bne_iff_ne.mpr c19
            have H' := Aside0.mk H
            clear H
            go_wp2
            go_meet
            case rel => exact ⟨_, ((a0 == 27)), (by first | rfl | (simp; done) | (simp [*]; done)), H', ⟨by have := HJ9.out; first | omega | exact Nat.le_refl _⟩, ⟨by repeat (first | (with_reducible first | exact HB.out | apply below_alloc | apply pw_below_drewN | apply below_drew1) | exact HB.out)⟩⟩
        case rest =>
         clear HC16
         try clear c1
         try clear p2
         try clear c3
         try clear c3b0
         try clear c3b1
         try clear c5
         try clear c6
         try clear c6b0
         try clear c6b1
         try clear c8
         try clear c9
         try clear c9b0
         try clear c9b1
         try clear c11
         try clear c11b0
         try clear c11b1
         try clear c12
         try clear c15
         try clear c15b0
         try clear c15b1
         try clear c17
         try clear c17b0
         try clear c17b1
         try clear c18
         try clear c18b0
         try clear c18b1
         try clear c19
         try clear c19b0
         try clear c19b1
         try clear p2
         obtain ⟨kq, x43_15, rfl, HA, HJ15, HB⟩ := hcut
         cases kq with
         | zero => exact absurd HA.out (by simp [nodes_right.j1])
         | succ kj15 =>
          have H := HA.out
          clear HA
          simp only [nodes_right.j1] at H
          by_cases c20 : x43_15 = true
          ·subst c20
           have H1 : ((texts_Right.f a0 l1).bind fun t250 => (some t250)) = some r := by rw [if_pos rfl] at H; exact H
           clear H
           have H := H1
           clear H1
           replace H := Option.bind_eq_some_iff.mp H
           obtain ⟨t250, A210, H⟩ := H
           replace H : (some t250) = some r := H
           have A21 := Aside0.mk A210
           clear A210
           obtain rfl := Option.some.inj H
           go_wp2_with (first | ((with_reducible refine gate_callee (f := 42) rfl ?_); refine goesL_ (some 50) rfl rfl Tryz.func42 (by kernel_rfl) rfl #[.int .u8 a0, .slice A1 l1.length c1] rfl (by (try simp only [List.map_toArray, List.map_cons, List.map_nil]); first | done | rfl | (simp only [List.length_drop, List.length_take]; rfl)) ?_; (with_reducible refine (texts_Right.calls a0 _ _ l1 t250 _ ?side1 ?side2 A21.out).mono ?_); (case side1 => repeat (first | exact (Kd.C_below HR1.out HB.out) | (with_reducible refine Kd.C_alloc ?_ _) | (with_reducible refine Kd.C_drewN ?_ _) | (with_reducible refine Kd.C_drew ?_))); (case side2 => exact HC1.out); rintro e w22 ⟨rfl, hb⟩; refine ⟨_, rfl, ?_⟩; have n0_ := Aside0.mk (below_step (by repeat (first | (with_reducible first | exact HB.out | apply below_alloc | apply pw_below_drewN | apply below_drew1) | exact HB.out)) hb); clear HB; have HB := n0_; clear n0_; (try clear hb); (try clear hb2); (try clear hk); (try clear hi)))
           go_ret
           exact ⟨by first | rfl | (simp [errW_none, errW_some] <;> rfl) | (simp [*, errW_none, errW_some] <;> rfl), by repeat (first | (with_reducible first | exact HB.out | apply below_alloc | apply pw_below_drewN | apply below_drew1) | exact HB.out)⟩
          ·replace c20 := Bool.eq_false_iff.mpr c20
           subst c20
           have H1 : (if a0 = 3 then (none) else (some (0 == 0))) = some r := by rw [if_neg (show ¬ (false = true) by decide)] at H; exact H
           clear H
           have H := H1
           clear H1
           by_cases c23 : a0 = 3
           ·rw [if_pos c23] at H
            exact absurd H (by simp)
           ·rw [if_neg c23] at H
            have c23b0 : (a0 == 3) = false := beq_eq_false_iff_ne.mpr c23
            have c23b1 : (a0 != 3) = true := bne_iff_ne.mpr c23
            obtain rfl := Option.some.inj H
            go_wp2
            go_ret
            exact ⟨by first | rfl | (simp [errW_none, errW_some] <;> rfl) | (simp [*, errW_none, errW_some] <;> rfl), by repeat (first | (with_reducible first | exact HB.out | apply below_alloc | apply pw_below_drewN | apply below_drew1) | exact HB.out)⟩
noncomputable def tlv_Put.f (a0 : Int) (l1 : List Int) : Option (List Int × Int) := (some (([a0, ((l1.length : Int)) % 256] : List Int) : List Int)).bind fun y251 => (if (Go.bits .and .u8 a0 31) = 31 then (some (([] : List Int), 11)) else (if (l1.length : Int) > 65535 then (some (([] : List Int), 2)) else (if (l1.length : Int) > 255 then ((some (([a0, 130, ((l1.length : Int) / 256) % 256, ((l1.length : Int)) % 256] : List Int) : List Int)).bind fun y254 => (if y254.length + l1.length < 140737488355328 then (some ((y254 ++ l1), 0)) else (none))) else (if (l1.length : Int) > 127 then ((some (([a0, 129, ((l1.length : Int)) % 256] : List Int) : List Int)).bind fun y260 => (if y260.length + l1.length < 140737488355328 then (some ((y260 ++ l1), 0)) else (none))) else (if y251.length + l1.length < 140737488355328 then (some ((y251 ++ l1), 0)) else (none))))))
set_option maxHeartbeats 8000000 in
set_option maxRecDepth 100000 in
theorem tlv_Put.calls (a0 : Int) (A1 : Option Addr) (c1 : Nat) (l1 : List Int) (r1 : List Int) (r2 : Int) (w : World) (hr1 : Kd.C (Kd.int .u8) w A1 l1.length l1) (hc1 : l1.length ≤ c1) (h : tlv_Put.f a0 l1 = some (r1, r2)) :
  Calls Tryz.prog 55 #[.int .u8 a0, .slice A1 l1.length c1] w fun e w' => ∃ v0_ : Value, e = .returned (.tuple #[v0_, .int .i64 r2]) ∧ Kd.R (Kd.int .u8) 5 w' w.heap.size (fun _ => True) v0_ r1 ∧ Below w.heap.size w w' := by
 have HR1 := Aside0.mk hr1
 have HC1 := Aside0.mk hc1
 clear hr1 hc1
 have HB := Aside0.mk (Below.refl w.heap.size w)
 have H : ((some (([a0, ((l1.length : Int)) % 256] : List Int) : List Int)).bind fun y251 => (if (Go.bits .and .u8 a0 31) = 31 then (some (([] : List Int), 11)) else (if (l1.length : Int) > 65535 then (some (([] : List Int), 2)) else (if (l1.length : Int) > 255 then ((some (([a0, 130, ((l1.length : Int) / 256) % 256, ((l1.length : Int)) % 256] : List Int) : List Int)).bind fun y254 => (if y254.length + l1.length < 140737488355328 then (some ((y254 ++ l1), 0)) else (none))) else (if (l1.length : Int) > 127 then ((some (([a0, 129, ((l1.length : Int)) % 256] : List Int) : List Int)).bind fun y260 => (if y260.length + l1.length < 140737488355328 then (some ((y260 ++ l1), 0)) else (none))) else (if y251.length + l1.length < 140737488355328 then (some ((y251 ++ l1), 0)) else (none))))))) = some (r1, r2) := h
 clear h
 obtain ⟨y251, hy251⟩ : ∃ y_ : List Int, y_ = (([a0, ((l1.length : Int)) % 256] : List Int)) := ⟨_, rfl⟩
 replace H : (if (Go.bits .and .u8 a0 31) = 31 then (some (([] : List Int), 11)) else (if (l1.length : Int) > 65535 then (some (([] : List Int), 2)) else (if (l1.length : Int) > 255 then ((some (([a0, 130, ((l1.length : Int) / 256) % 256, ((l1.length : Int)) % 256] : List Int) : List Int)).bind fun y254 => (if y254.length + l1.length < 140737488355328 then (some ((y254 ++ l1), 0)) else (none))) else (if (l1.length : Int) > 127 then ((some (([a0, 129, ((l1.length : Int)) % 256] : List Int) : List Int)).bind fun y260 => (if y260.length + l1.length < 140737488355328 then (some ((y260 ++ l1), 0)) else (none))) else (if y251.length + l1.length < 140737488355328 then (some ((y251 ++ l1), 0)) else (none)))))) = some (r1, r2) := by first | (rw [hy251]; with_reducible exact H) | (have H2_ := (Option.bind_some _ _).symm.trans H; rw [hy251]; with_reducible exact H2_) | (have H2_ := (Option.bind_some _ _).symm.trans H; with_reducible exact H2_) | with_reducible exact H | (rw [hy251]; exact H) | exact H
 have Ny251 := Aside0.mk hy251
 clear hy251
 by_cases c3 : (Go.bits .and .u8 a0 31) = 31
 ·rw [if_pos c3] at H
  have c3b0 : ((Go.bits .and .u8 a0 31) == 31) = true := beq_iff_eq.mpr c3
  have c3b1 : ((Go.bits .and .u8 a0 31) != 31) = false := bne_eq_false_iff_eq.mpr c3
  clear c3
  simp only [Option.some.injEq, Prod.mk.injEq] at H
  obtain ⟨rfl, rfl⟩ := H
  go_enter Tryz.func55, Tryz.ntmps55
  go_wp2_with (first | ((with_reducible refine gate_dst (N := 13) rfl ?_); refine Kd.R_lit (Kd.int .u8) _ 5 ?hg (N := 13) ?hd (xs := ([a0, ((l1.length : Int)) % 256] : List Int)) (inner := [.int .u8 a0, .int .u8 (((l1.length : Int)) % 256)]) (ok := fun _ => True) (okp := fun _ => True) ?hr ?hp (fun _ hk => hk) trivial (Below.refl _ _) (Nat.le_refl _) (by simp) ?_; (case hd => rfl); (case hg => rfl); (case hr => first | (go_simp; done) | (go_simp; rfl)); (case hp => exact (Reps.one (show Kd.M (Kd.int .u8) _ _ _ a0 [.int .u8 a0] from rfl) (Reps.one (show Kd.M (Kd.int .u8) _ _ _ (((l1.length : Int)) % 256) [.int .u8 (((l1.length : Int)) % 256)] from rfl) (Reps.none _ _)))); intro v252 w4 ho5 hb hg_ hnew_; clear hg_ hnew_; (first | rw [← Ny251.out] at ho5 | (simp only [Int.reduceToNat] at ho5; rw [← Ny251.out] at ho5)); have n0_ := Aside0.mk (Kd.R_lower ho5 (below_size (by repeat (first | (with_reducible first | exact HB.out | apply below_alloc | apply pw_below_drewN | apply below_drew1) | exact HB.out)))); have n1_ := Aside0.mk (below_step (by repeat (first | (with_reducible first | exact HB.out | apply below_alloc | apply pw_below_drewN | apply below_drew1) | exact HB.out)) hb); clear HB; have HO253 := n0_; have HB := n1_; clear n0_ n1_; clear hb ho5))
  go_ret2
  exact ⟨_, by first | rfl | (simp [errW_none, errW_some] <;> rfl) | (simp [*, errW_none, errW_some] <;> rfl), by first | exact Kd.R_nil _ _ _ _ _ | exact Kd.N_nil _ _ _ _ _ | exact Kd.V_nil _ _ _ _ _ | exact Kd.Q_nil _ _ _ _ _ | exact Kd.S_nil _ _ _ _ _, by repeat (first | (with_reducible first | exact HB.out | apply below_alloc | apply pw_below_drewN | apply below_drew1) | exact HB.out)⟩
 ·rw [if_neg c3] at H
  have c3b0 : ((Go.bits .and .u8 a0 31) == 31) = false := beq_eq_false_iff_ne.mpr c3
  have c3b1 : ((Go.bits .and .u8 a0 31) != 31) = true := bne_iff_ne.mpr c3
  by_cases c6 : (l1.length : Int) > 65535
  ·rw [if_pos c6] at H
   have c6b0 : decide (65535 < (l1.length : Int)) = true := decide_eq_true c6
   have c6b1 : decide (65535 < l1.length) = true := decide_eq_true (by omega)
   clear c6
   simp only [Option.some.injEq, Prod.mk.injEq] at H
   obtain ⟨rfl, rfl⟩ := H
   go_enter Tryz.func55, Tryz.ntmps55
   go_wp2_with (first | ((with_reducible refine gate_dst (N := 13) rfl ?_); refine Kd.R_lit (Kd.int .u8) _ 5 ?hg (N := 13) ?hd (xs := ([a0, ((l1.length : Int)) % 256] : List Int)) (inner := [.int .u8 a0, .int .u8 (((l1.length : Int)) % 256)]) (ok := fun _ => True) (okp := fun _ => True) ?hr ?hp (fun _ hk => hk) trivial (Below.refl _ _) (Nat.le_refl _) (by simp) ?_; (case hd => rfl); (case hg => rfl); (case hr => first | (go_simp; done) | (go_simp; rfl)); (case hp => exact (Reps.one (show Kd.M (Kd.int .u8) _ _ _ a0 [.int .u8 a0] from rfl) (Reps.one (show Kd.M (Kd.int .u8) _ _ _ (((l1.length : Int)) % 256) [.int .u8 (((l1.length : Int)) % 256)] from rfl) (Reps.none _ _)))); intro v252 w7 ho8 hb hg_ hnew_; clear hg_ hnew_; (first | rw [← Ny251.out] at ho8 | (simp only [Int.reduceToNat] at ho8; rw [← Ny251.out] at ho8)); have n0_ := Aside0.mk (Kd.R_lower ho8 (below_size (by repeat (first | (with_reducible first | exact HB.out | apply below_alloc | apply pw_below_drewN | apply below_drew1) | exact HB.out)))); have n1_ := Aside0.mk (below_step (by repeat (first | (with_reducible first | exact HB.out | apply below_alloc | apply pw_below_drewN | apply below_drew1) | exact HB.out)) hb); clear HB; have HO253 := n0_; have HB := n1_; clear n0_ n1_; clear hb ho8))
   go_ret2
   exact ⟨_, by first | rfl | (simp [errW_none, errW_some] <;> rfl) | (simp [*, errW_none, errW_some] <;> rfl), by first | exact Kd.R_nil _ _ _ _ _ | exact Kd.N_nil _ _ _ _ _ | exact Kd.V_nil _ _ _ _ _ | exact Kd.Q_nil _ _ _ _ _ | exact Kd.S_nil _ _ _ _ _, by repeat (first | (with_reducible first | exact HB.out | apply below_alloc | apply pw_below_drewN | apply below_drew1) | exact HB.out)⟩
  ·rw [if_neg c6] at H
   have c6b0 : decide (65535 < (l1.length : Int)) = false := decide_eq_false c6
   have c6b1 : decide (65535 < l1.length) = false := decide_eq_false (by omega)
   clear c6
   by_cases c9 : (l1.length : Int) > 255
   ·rw [if_pos c9] at H
    have c9b0 : decide (255 < (l1.length : Int)) = true := decide_eq_true c9
    have c9b1 : decide (255 < l1.length) = true := decide_eq_true (by omega)
    clear c9
    obtain ⟨y254, hy254⟩ : ∃ y_ : List Int, y_ = (([a0, 130, ((l1.length : Int) / 256) % 256, ((l1.length : Int)) % 256] : List Int)) := ⟨_, rfl⟩
    replace H : (if y254.length + l1.length < 140737488355328 then (some ((y254 ++ l1), 0)) else (none)) = some (r1, r2) := by first | (rw [hy254]; with_reducible exact H) | (have H2_ := (Option.bind_some _ _).symm.trans H; rw [hy254]; with_reducible exact H2_) | (have H2_ := (Option.bind_some _ _).symm.trans H; with_reducible exact H2_) | with_reducible exact H | (rw [hy254]; exact H) | exact H
    have Ny254 := Aside0.mk hy254
    clear hy254
    by_cases c10 : y254.length + l1.length < 140737488355328
    ·rw [if_pos c10] at H
     have LMc10 := Aside0.mk c10
     clear c10
     obtain ⟨y257, hy257⟩ : ∃ y_ : List Int, y_ = (y254 ++ l1) := ⟨_, rfl⟩
     replace H : (some (y257, 0)) = some (r1, r2) := by first | (rw [hy257]; with_reducible exact H) | (have H2_ := (Option.bind_some _ _).symm.trans H; rw [hy257]; with_reducible exact H2_) | (have H2_ := (Option.bind_some _ _).symm.trans H; with_reducible exact H2_) | with_reducible exact H | (rw [hy257]; exact H) | exact H
     have Ny257 := Aside0.mk hy257
     clear hy257
     simp only [Option.some.injEq, Prod.mk.injEq] at H
     obtain ⟨rfl, rfl⟩ := H
     go_enter Tryz.func55, Tryz.ntmps55
     go_wp2_with (first | ((with_reducible refine gate_dst (N := 13) rfl ?_); refine Kd.R_lit (Kd.int .u8) _ 5 ?hg (N := 13) ?hd (xs := ([a0, ((l1.length : Int)) % 256] : List Int)) (inner := [.int .u8 a0, .int .u8 (((l1.length : Int)) % 256)]) (ok := fun _ => True) (okp := fun _ => True) ?hr ?hp (fun _ hk => hk) trivial (Below.refl _ _) (Nat.le_refl _) (by simp) ?_; (case hd => rfl); (case hg => rfl); (case hr => first | (go_simp; done) | (go_simp; rfl)); (case hp => exact (Reps.one (show Kd.M (Kd.int .u8) _ _ _ a0 [.int .u8 a0] from rfl) (Reps.one (show Kd.M (Kd.int .u8) _ _ _ (((l1.length : Int)) % 256) [.int .u8 (((l1.length : Int)) % 256)] from rfl) (Reps.none _ _)))); intro v252 w11 ho12 hb hg_ hnew_; clear hg_ hnew_; (first | rw [← Ny251.out] at ho12 | (simp only [Int.reduceToNat] at ho12; rw [← Ny251.out] at ho12)); have n0_ := Aside0.mk (Kd.R_lower ho12 (below_size (by repeat (first | (with_reducible first | exact HB.out | apply below_alloc | apply pw_below_drewN | apply below_drew1) | exact HB.out)))); have n1_ := Aside0.mk (below_step (by repeat (first | (with_reducible first | exact HB.out | apply below_alloc | apply pw_below_drewN | apply below_drew1) | exact HB.out)) hb); clear HB; have HO253 := n0_; have HB := n1_; clear n0_ n1_; clear hb ho12) | ((with_reducible refine gate_dst (N := 30) rfl ?_); refine Kd.R_lit (Kd.int .u8) _ 5 ?hg (N := 30) ?hd (xs := ([a0, 130, ((l1.length : Int) / 256) % 256, ((l1.length : Int)) % 256] : List Int)) (inner := [.int .u8 a0, .int .u8 130, .int .u8 (((l1.length : Int) / 256) % 256), .int .u8 (((l1.length : Int)) % 256)]) (ok := fun _ => True) (okp := fun _ => True) ?hr ?hp (fun _ hk => hk) trivial (Below.refl _ _) (Nat.le_refl _) (by simp) ?_; (case hd => rfl); (case hg => rfl); (case hr => first | (go_simp; done) | (go_simp; rfl)); (case hp => exact (Reps.one (show Kd.M (Kd.int .u8) _ _ _ a0 [.int .u8 a0] from rfl) (Reps.one (show Kd.M (Kd.int .u8) _ _ _ 130 [.int .u8 130] from rfl) (Reps.one (show Kd.M (Kd.int .u8) _ _ _ (((l1.length : Int) / 256) % 256) [.int .u8 (((l1.length : Int) / 256) % 256)] from rfl) (Reps.one (show Kd.M (Kd.int .u8) _ _ _ (((l1.length : Int)) % 256) [.int .u8 (((l1.length : Int)) % 256)] from rfl) (Reps.none _ _)))))); intro v255 w13 ho14 hb hg_ hnew_; clear hg_ hnew_; (first | rw [← Ny254.out] at ho14 | (simp only [Int.reduceToNat] at ho14; rw [← Ny254.out] at ho14)); have n0_ := Aside0.mk (Kd.R_elder' (by (with_reducible repeat (first | apply Kd.R_alloc | apply Kd.R_drewN | apply Kd.R_drew)); exact HO253.out) (Kd.R_base ho14) hb); have n1_ := Aside0.mk (Kd.R_lower (Kd.R_new' ho14 (Kd.R_lt (by (with_reducible repeat (first | apply Kd.R_alloc | apply Kd.R_drewN | apply Kd.R_drew)); exact HO253.out))) (below_size (by repeat (first | (with_reducible first | exact HB.out | apply below_alloc | apply pw_below_drewN | apply below_drew1) | exact HB.out)))); have n2_ := Aside0.mk (below_step (by repeat (first | (with_reducible first | exact HB.out | apply below_alloc | apply pw_below_drewN | apply below_drew1) | exact HB.out)) hb); clear HO253; clear HB; have HO253 := n0_; have HO256 := n1_; have HB := n2_; clear n0_ n1_ n2_; clear hb ho14) | ((with_reducible refine gate_builtin (b := .append) (xs := #[.tmp 38, .tmp 39]) rfl ?_); at_builtin; refine Kd.R_append_rows (Kd.int .u8) (w0 := w) w.heap.size rfl (.tmp 38) (.tmp 39) 25 5 (.int .u8 0) 1 rfl Tryz.underlying25 info5 rfl (by decide) (by omega) v255 y254 l1 _ _ _ (fun k_ => some k_ ≠ (v252 : Value).ownBlock) (fun _ => False) rfl rfl ?aO ?aR (fun _ _ h => h) (fun _ h => h.elim) ?aF ?aB ?aS ?aL ?_; (case aR => repeat (first | exact (Kd.C_below HR1.out HB.out) | (with_reducible refine Kd.C_alloc ?_ _) | (with_reducible refine Kd.C_drewN ?_ _) | (with_reducible refine Kd.C_drew ?_))); (case aB => exact (by repeat (first | (with_reducible first | exact HB.out | apply below_alloc | apply pw_below_drewN | apply below_drew1) | exact HB.out))); (case aF => exact (fun k_ hk => Kd.fresh' (Kd.R_lt (by (with_reducible repeat (first | apply Kd.R_alloc | apply Kd.R_drewN | apply Kd.R_drew)); exact HO253.out)) k_ hk)); (case aO => exact (by (with_reducible repeat (first | apply Kd.R_alloc | apply Kd.R_drewN | apply Kd.R_drew)); exact Kd.R_mono HO256.out (fun _ hk => hk.2))); (case aS => exact (below_size (by repeat (first | (with_reducible first | exact HB.out | apply below_alloc | apply pw_below_drewN | apply below_drew1) | exact HB.out)))); (case aL => have := LMc10.out; omega); intro v258 w15 ho hb hg hat; rw [← Ny257.out] at ho; have n0_ := Aside0.mk (Kd.R_after (ok := (fun _ => True)) (by (with_reducible repeat (first | apply Kd.R_alloc | apply Kd.R_drewN | apply Kd.R_drew)); exact HO253.out) hg hat); have n1_ := Aside0.mk (hb); have n2_ := Aside0.mk (ho); clear HO253; clear HB; clear HO256; have HO253 := n0_; have HB := n1_; have HO259 := n2_; clear n0_ n1_ n2_; clear ho hb hg hat))
     go_ret2
     exact ⟨_, by first | rfl | (simp [errW_none, errW_some] <;> rfl) | (simp [*, errW_none, errW_some] <;> rfl), by (with_reducible repeat (first | apply Kd.R_alloc | apply Kd.R_drewN | apply Kd.R_drew)); exact Kd.R_mono HO259.out (fun _ hk => trivial), by repeat (first | (with_reducible first | exact HB.out | apply below_alloc | apply pw_below_drewN | apply below_drew1) | exact HB.out)⟩
    ·rw [if_neg c10] at H
     exact absurd H (by simp)
   ·rw [if_neg c9] at H
    have c9b0 : decide (255 < (l1.length : Int)) = false := decide_eq_false c9
    have c9b1 : decide (255 < l1.length) = false := decide_eq_false (by omega)
    clear c9
    by_cases c16 : (l1.length : Int) > 127
    ·rw [if_pos c16] at H
     have c16b0 : decide (127 < (l1.length : Int)) = true := decide_eq_true c16
     have c16b1 : decide (127 < l1.length) = true := decide_eq_true (by omega)
     clear c16
     obtain ⟨y260, hy260⟩ : ∃ y_ : List Int, y_ = (([a0, 129, ((l1.length : Int)) % 256] : List Int)) := ⟨_, rfl⟩
     replace H : (if y260.length + l1.length < 140737488355328 then (some ((y260 ++ l1), 0)) else (none)) = some (r1, r2) := by first | (rw [hy260]; with_reducible exact H) | (have H2_ := (Option.bind_some _ _).symm.trans H; rw [hy260]; with_reducible exact H2_) | (have H2_ := (Option.bind_some _ _).symm.trans H; with_reducible exact H2_) | with_reducible exact H | (rw [hy260]; exact H) | exact H
     have Ny260 := Aside0.mk hy260
     clear hy260
     by_cases c17 : y260.length + l1.length < 140737488355328
     ·rw [if_pos c17] at H
      have LMc17 := Aside0.mk c17
      clear c17
      obtain ⟨y263, hy263⟩ : ∃ y_ : List Int, y_ = (y260 ++ l1) := ⟨_, rfl⟩
      replace H : (some (y263, 0)) = some (r1, r2) := by first | (rw [hy263]; with_reducible exact H) | (have H2_ := (Option.bind_some _ _).symm.trans H; rw [hy263]; with_reducible exact H2_) | (have H2_ := (Option.bind_some _ _).symm.trans H; with_reducible exact H2_) | with_reducible exact H | (rw [hy263]; exact H) | exact H
      have Ny263 := Aside0.mk hy263
      clear hy263
      simp only [Option.some.injEq, Prod.mk.injEq] at H
      obtain ⟨rfl, rfl⟩ := H
      go_enter Tryz.func55, Tryz.ntmps55
      go_wp2_with (first | ((with_reducible refine gate_dst (N := 13) rfl ?_); refine Kd.R_lit (Kd.int .u8) _ 5 ?hg (N := 13) ?hd (xs := ([a0, ((l1.length : Int)) % 256] : List Int)) (inner := [.int .u8 a0, .int .u8 (((l1.length : Int)) % 256)]) (ok := fun _ => True) (okp := fun _ => True) ?hr ?hp (fun _ hk => hk) trivial (Below.refl _ _) (Nat.le_refl _) (by simp) ?_; (case hd => rfl); (case hg => rfl); (case hr => first | (go_simp; done) | (go_simp; rfl)); (case hp => exact (Reps.one (show Kd.M (Kd.int .u8) _ _ _ a0 [.int .u8 a0] from rfl) (Reps.one (show Kd.M (Kd.int .u8) _ _ _ (((l1.length : Int)) % 256) [.int .u8 (((l1.length : Int)) % 256)] from rfl) (Reps.none _ _)))); intro v252 w18 ho19 hb hg_ hnew_; clear hg_ hnew_; (first | rw [← Ny251.out] at ho19 | (simp only [Int.reduceToNat] at ho19; rw [← Ny251.out] at ho19)); have n0_ := Aside0.mk (Kd.R_lower ho19 (below_size (by repeat (first | (with_reducible first | exact HB.out | apply below_alloc | apply pw_below_drewN | apply below_drew1) | exact HB.out)))); have n1_ := Aside0.mk (below_step (by repeat (first | (with_reducible first | exact HB.out | apply below_alloc | apply pw_below_drewN | apply below_drew1) | exact HB.out)) hb); clear HB; have HO253 := n0_; have HB := n1_; clear n0_ n1_; clear hb ho19) | ((with_reducible refine gate_dst (N := 37) rfl ?_); refine Kd.R_lit (Kd.int .u8) _ 5 ?hg (N := 37) ?hd (xs := ([a0, 129, ((l1.length : Int)) % 256] : List Int)) (inner := [.int .u8 a0, .int .u8 129, .int .u8 (((l1.length : Int)) % 256)]) (ok := fun _ => True) (okp := fun _ => True) ?hr ?hp (fun _ hk => hk) trivial (Below.refl _ _) (Nat.le_refl _) (by simp) ?_; (case hd => rfl); (case hg => rfl); (case hr => first | (go_simp; done) | (go_simp; rfl)); (case hp => exact (Reps.one (show Kd.M (Kd.int .u8) _ _ _ a0 [.int .u8 a0] from rfl) (Reps.one (show Kd.M (Kd.int .u8) _ _ _ 129 [.int .u8 129] from rfl) (Reps.one (show Kd.M (Kd.int .u8) _ _ _ (((l1.length : Int)) % 256) [.int .u8 (((l1.length : Int)) % 256)] from rfl) (Reps.none _ _))))); intro v261 w20 ho21 hb hg_ hnew_; clear hg_ hnew_; (first | rw [← Ny260.out] at ho21 | (simp only [Int.reduceToNat] at ho21; rw [← Ny260.out] at ho21)); have n0_ := Aside0.mk (Kd.R_elder' (by (with_reducible repeat (first | apply Kd.R_alloc | apply Kd.R_drewN | apply Kd.R_drew)); exact HO253.out) (Kd.R_base ho21) hb); have n1_ := Aside0.mk (Kd.R_lower (Kd.R_new' ho21 (Kd.R_lt (by (with_reducible repeat (first | apply Kd.R_alloc | apply Kd.R_drewN | apply Kd.R_drew)); exact HO253.out))) (below_size (by repeat (first | (with_reducible first | exact HB.out | apply below_alloc | apply pw_below_drewN | apply below_drew1) | exact HB.out)))); have n2_ := Aside0.mk (below_step (by repeat (first | (with_reducible first | exact HB.out | apply below_alloc | apply pw_below_drewN | apply below_drew1) | exact HB.out)) hb); clear HO253; clear HB; have HO253 := n0_; have HO262 := n1_; have HB := n2_; clear n0_ n1_ n2_; clear hb ho21) | ((with_reducible refine gate_builtin (b := .append) (xs := #[.tmp 38, .tmp 39]) rfl ?_); at_builtin; refine Kd.R_append_rows (Kd.int .u8) (w0 := w) w.heap.size rfl (.tmp 38) (.tmp 39) 25 5 (.int .u8 0) 1 rfl Tryz.underlying25 info5 rfl (by decide) (by omega) v261 y260 l1 _ _ _ (fun k_ => some k_ ≠ (v252 : Value).ownBlock) (fun _ => False) rfl rfl ?aO ?aR (fun _ _ h => h) (fun _ h => h.elim) ?aF ?aB ?aS ?aL ?_; (case aR => repeat (first | exact (Kd.C_below HR1.out HB.out) | (with_reducible refine Kd.C_alloc ?_ _) | (with_reducible refine Kd.C_drewN ?_ _) | (with_reducible refine Kd.C_drew ?_))); (case aB => exact (by repeat (first | (with_reducible first | exact HB.out | apply below_alloc | apply pw_below_drewN | apply below_drew1) | exact HB.out))); (case aF => exact (fun k_ hk => Kd.fresh' (Kd.R_lt (by (with_reducible repeat (first | apply Kd.R_alloc | apply Kd.R_drewN | apply Kd.R_drew)); exact HO253.out)) k_ hk)); (case aO => exact (by (with_reducible repeat (first | apply Kd.R_alloc | apply Kd.R_drewN | apply Kd.R_drew)); exact Kd.R_mono HO262.out (fun _ hk => hk.2))); (case aS => exact (below_size (by repeat (first | (with_reducible first | exact HB.out | apply below_alloc | apply pw_below_drewN | apply below_drew1) | exact HB.out)))); (case aL => have := LMc17.out; omega); intro v264 w22 ho hb hg hat; rw [← Ny263.out] at ho; have n0_ := Aside0.mk (Kd.R_after (ok := (fun _ => True)) (by (with_reducible repeat (first | apply Kd.R_alloc | apply Kd.R_drewN | apply Kd.R_drew)); exact HO253.out) hg hat); have n1_ := Aside0.mk (hb); have n2_ := Aside0.mk (ho); clear HO253; clear HB; clear HO262; have HO253 := n0_; have HB := n1_; have HO265 := n2_; clear n0_ n1_ n2_; clear ho hb hg hat))
      go_ret2
      exact ⟨_, by first | rfl | (simp [errW_none, errW_some] <;> rfl) | (simp [*, errW_none, errW_some] <;> rfl), by (with_reducible repeat (first | apply Kd.R_alloc | apply Kd.R_drewN | apply Kd.R_drew)); exact Kd.R_mono HO265.out (fun _ hk => trivial), by repeat (first | (with_reducible first | exact HB.out | apply below_alloc | apply pw_below_drewN | apply below_drew1) | exact HB.out)⟩
     ·rw [if_neg c17] at H
      exact absurd H (by simp)
    ·rw [if_neg c16] at H
     have c16b0 : decide (127 < (l1.length : Int)) = false := decide_eq_false c16
     have c16b1 : decide (127 < l1.length) = false := decide_eq_false (by omega)
     clear c16
     by_cases c23 : y251.length + l1.length < 140737488355328
     ·rw [if_pos c23] at H
      have LMc23 := Aside0.mk c23
      clear c23
      obtain ⟨y266, hy266⟩ : ∃ y_ : List Int, y_ = (y251 ++ l1) := ⟨_, rfl⟩
      replace H : (some (y266, 0)) = some (r1, r2) := by first | (rw [hy266]; with_reducible exact H) | (have H2_ := (Option.bind_some _ _).symm.trans H; rw [hy266]; with_reducible exact H2_) | (have H2_ := (Option.bind_some _ _).symm.trans H; with_reducible exact H2_) | with_reducible exact H | (rw [hy266]; exact H) | exact H
      have Ny266 := Aside0.mk hy266
      clear hy266
      simp only [Option.some.injEq, Prod.mk.injEq] at H
      obtain ⟨rfl, rfl⟩ := H
      go_enter Tryz.func55, Tryz.ntmps55
      go_wp2_with (first | ((with_reducible refine gate_dst (N := 13) rfl ?_); refine Kd.R_lit (Kd.int .u8) _ 5 ?hg (N := 13) ?hd (xs := ([a0, ((l1.length : Int)) % 256] : List Int)) (inner := [.int .u8 a0, .int .u8 (((l1.length : Int)) % 256)]) (ok := fun _ => True) (okp := fun _ => True) ?hr ?hp (fun _ hk => hk) trivial (Below.refl _ _) (Nat.le_refl _) (by simp) ?_; (case hd => rfl); (case hg => rfl); (case hr => first | (go_simp; done) | (go_simp; rfl)); (case hp => exact (Reps.one (show Kd.M (Kd.int .u8) _ _ _ a0 [.int .u8 a0] from rfl) (Reps.one (show Kd.M (Kd.int .u8) _ _ _ (((l1.length : Int)) % 256) [.int .u8 (((l1.length : Int)) % 256)] from rfl) (Reps.none _ _)))); intro v252 w24 ho25 hb hg_ hnew_; clear hg_ hnew_; (first | rw [← Ny251.out] at ho25 | (simp only [Int.reduceToNat] at ho25; rw [← Ny251.out] at ho25)); have n0_ := Aside0.mk (Kd.R_lower ho25 (below_size (by repeat (first | (with_reducible first | exact HB.out | apply below_alloc | apply pw_below_drewN | apply below_drew1) | exact HB.out)))); have n1_ := Aside0.mk (below_step (by repeat (first | (with_reducible first | exact HB.out | apply below_alloc | apply pw_below_drewN | apply below_drew1) | exact HB.out)) hb); clear HB; have HO253 := n0_; have HB := n1_; clear n0_ n1_; clear hb ho25) | ((with_reducible refine gate_builtin (b := .append) (xs := #[.tmp 38, .tmp 39]) rfl ?_); at_builtin; refine Kd.R_append_rows (Kd.int .u8) (w0 := w) w.heap.size rfl (.tmp 38) (.tmp 39) 25 5 (.int .u8 0) 1 rfl Tryz.underlying25 info5 rfl (by decide) (by omega) v252 y251 l1 _ _ _ (fun _ => True) (fun _ => False) rfl rfl ?aO ?aR (fun _ _ h => h) (fun _ h => h.elim) ?aF ?aB ?aS ?aL ?_; (case aR => repeat (first | exact (Kd.C_below HR1.out HB.out) | (with_reducible refine Kd.C_alloc ?_ _) | (with_reducible refine Kd.C_drewN ?_ _) | (with_reducible refine Kd.C_drew ?_))); (case aB => exact (by repeat (first | (with_reducible first | exact HB.out | apply below_alloc | apply pw_below_drewN | apply below_drew1) | exact HB.out))); (case aF => exact (fun _ _ => trivial)); (case aO => exact (by (with_reducible repeat (first | apply Kd.R_alloc | apply Kd.R_drewN | apply Kd.R_drew)); exact HO253.out)); (case aS => exact (below_size (by repeat (first | (with_reducible first | exact HB.out | apply below_alloc | apply pw_below_drewN | apply below_drew1) | exact HB.out)))); (case aL => have := LMc23.out; omega); intro v267 w26 ho hb hg hat; rw [← Ny266.out] at ho; have n0_ := Aside0.mk (hb); have n1_ := Aside0.mk (ho); clear HB; clear HO253; have HB := n0_; have HO268 := n1_; clear n0_ n1_; clear ho hb hg hat))
      go_ret2
      exact ⟨_, by first | rfl | (simp [errW_none, errW_some] <;> rfl) | (simp [*, errW_none, errW_some] <;> rfl), by (with_reducible repeat (first | apply Kd.R_alloc | apply Kd.R_drewN | apply Kd.R_drew)); exact HO268.out, by repeat (first | (with_reducible first | exact HB.out | apply below_alloc | apply pw_below_drewN | apply below_drew1) | exact HB.out)⟩
     ·rw [if_neg c23] at H
      exact absurd H (by simp)
mutual
noncomputable def nodes_printed.l0 : Nat → Int → List (List Int) → List (S44) → Int → Int → Int → List Int → List (S44) → Option (List Int)
 | 0, _, _, _, _, _, _, _, _ => none
 | k + 1, x1, x7, x53, x54, x55, x270000, x270001, x270002 => if x55 < x54 then (if 0 ≤ x55 then (if x55 < (x53.length : Int) then ((nodes_printed.f k ((rd_T44 x53 x55).f0) ((rd_T44 x53 x55).f1) ((rd_T44 x53 x55).f2) (wrap64 (x1 + 1))).bind fun t282 => (if x7.length < 5864062014805 then (nodes_printed.l0 k x1 (x7 ++ [t282]) x53 x54 (wrap64 (x55 + 1)) x270000 x270001 x270002) else (none))) else (none)) else (none)) else ((nodes_rise.f x270000 x7 0).bind fun _ => ((slices_Concat_byte_byte.f x7).bind fun t288 => ((tlv_Put.f x270000 t288).bind fun bt291 => ((nodes_must.f (bt291.2 == 0) bt291.2 0).bind fun _ => (some bt291.1)))))
noncomputable def nodes_printed.f : Nat → Int → List Int → List (S44) → Int → Option (List Int)
 | 0, _, _, _, _ => none
 | k + 1, a0_0, l0_1, l0_2, a1 => (nodes_must.f (decide (a1 < 32)) 41 0).bind fun _ => ((nodes_tagged.f k a0_0 0).bind fun _ => ((nodes_compound.f a0_0).bind fun t270 => (if t270 = true then ((nodes_must.f ((l0_1.length : Int) == 0) 43 0).bind fun _ => (nodes_printed.l0 k a1 ([] : List (List Int)) l0_2 (l0_2.length : Int) 0 a0_0 l0_1 l0_2)) else (if (l0_2.length : Int) = 0 then ((nodes_right.f k a0_0 l0_1).bind fun t271 => ((nodes_must.f t271 43 0).bind fun _ => ((tlv_Put.f a0_0 l0_1).bind fun bt272 => ((nodes_must.f (bt272.2 == 0) bt272.2 0).bind fun _ => (some bt272.1))))) else ((nodes_must.f false 43 0).bind fun _ => ((tlv_Put.f a0_0 l0_1).bind fun bt276 => ((nodes_must.f (bt276.2 == 0) bt276.2 0).bind fun _ => (some bt276.1))))))))
end
theorem nodes_printed.mono_l : ∀ k, (∀ y0 y1 y2 y3, LeO (nodes_printed.f k y0 y1 y2 y3) (nodes_printed.f (k + 1) y0 y1 y2 y3)) ∧ (∀ y0 y1 y2 y3 y4 y5 y6 y7, LeO (nodes_printed.l0 k y0 y1 y2 y3 y4 y5 y6 y7) (nodes_printed.l0 (k + 1) y0 y1 y2 y3 y4 y5 y6 y7))
 | 0 => ⟨fun _ _ _ _ r h => by simp [nodes_printed.f] at h, fun _ _ _ _ _ _ _ _ r h => by simp [nodes_printed.l0] at h⟩
 | k + 1 => by
  obtain ⟨ih0, ih1⟩ := nodes_printed.mono_l k
  refine ⟨?_, ?_⟩
  ·intro y0 y1 y2 y3
   unfold nodes_printed.f
   repeat' first
   | (with_reducible exact ih0 _ _ _ _)
   | (with_reducible exact ih1 _ _ _ _ _ _ _ _)
   | (with_reducible exact nodes_right.mono _ _ _)
   | (with_reducible exact nodes_tagged.mono _ _ _)
   | (with_reducible exact LeO.refl _)
   | (with_reducible exact LeO.none _)
   | (with_reducible refine LeO.ite ?_ ?_)
   | (with_reducible refine LeO.bind ?_ (fun _ => ?_))
   | exact ih0 _ _ _ _
   | exact ih1 _ _ _ _ _ _ _ _
   | exact nodes_right.mono _ _ _
   | exact nodes_tagged.mono _ _ _
   | exact LeO.none _
   | refine LeO.ite ?_ ?_
   | refine LeO.bind ?_ (fun _ => ?_)
  ·intro y0 y1 y2 y3 y4 y5 y6 y7
   unfold nodes_printed.l0
   repeat' first
   | (with_reducible exact ih0 _ _ _ _)
   | (with_reducible exact ih1 _ _ _ _ _ _ _ _)
   | (with_reducible exact nodes_right.mono _ _ _)
   | (with_reducible exact nodes_tagged.mono _ _ _)
   | (with_reducible exact LeO.refl _)
   | (with_reducible exact LeO.none _)
   | (with_reducible refine LeO.ite ?_ ?_)
   | (with_reducible refine LeO.bind ?_ (fun _ => ?_))
   | exact ih0 _ _ _ _
   | exact ih1 _ _ _ _ _ _ _ _
   | exact nodes_right.mono _ _ _
   | exact nodes_tagged.mono _ _ _
   | exact LeO.none _
   | refine LeO.ite ?_ ?_
   | refine LeO.bind ?_ (fun _ => ?_)
theorem nodes_printed.mono : ∀ a0 a1 a2 a3 k, LeO (nodes_printed.f k a0 a1 a2 a3) (nodes_printed.f (k + 1) a0 a1 a2 a3) := by
 intro a0 a1 a2 a3 k
 obtain ⟨ih0, ih1⟩ := nodes_printed.mono_l k
 exact ih0 a0 a1 a2 a3
def nodes_printed.T16 : Bool × List (List Nat × List Nat) := (true, [([], []), ([0], [0]), ([], []), ([2], [2]), ([1, 3, 3], [1, 3]), ([4], [4]), ([5], [5]), ([5], [5]), ([6, 4, 0, 1, 2, 3, 4, 5, 6], [6]), ([7, 8, 0, 1, 2, 3, 4, 5, 6, 7, 8], [7])])
def nodes_printed.B16 : List Nat := [0, 1, 0, 4, 15, 31, 63, 63, 127, 511]
theorem nodes_printed.tab16 : rtab .any (opsOf Tryz.f23 16) = nodes_printed.T16 := by kernel_rfl
theorem nodes_printed.bits16 : waitsOk nodes_printed.T16.2 nodes_printed.B16 = true := by kernel_rfl
set_option maxHeartbeats 8000000 in
set_option maxRecDepth 100000 in
theorem nodes_printed.calls (k : Nat) : ∀ (a0_0 : Int) (A0_1 : Option Addr) (c0_1 : Nat) (l0_1 : List Int) (A0_2 : Option Addr) (c0_2 : Nat) (l0_2 : List (S44)) (a1 : Int) (r : List Int) (w : World) (hr0_1 : Kd.C (Kd.int .u8) w A0_1 l0_1.length l0_1) (hc0_1 : l0_1.length ≤ c0_1) (hr0_2 : Kd.C k44 w A0_2 l0_2.length l0_2) (hc0_2 : l0_2.length ≤ c0_2) (h : nodes_printed.f k a0_0 l0_1 l0_2 a1 = some r),
  Calls Tryz.prog 23 #[.agg #[.int .u8 a0_0, .slice A0_1 l0_1.length c0_1, .slice A0_2 l0_2.length c0_2], .int .i64 a1] w fun e w' => ∃ v0_ : Value, e = .returned (v0_) ∧ Kd.R (Kd.int .u8) 5 w' w.heap.size (fun _ => True) v0_ r ∧ Below w.heap.size w w' := by
 induction k using Nat.strongRecOn with
 | _ k ih =>
 intro a0_0 A0_1 c0_1 l0_1 A0_2 c0_2 l0_2 a1 r w hr0_1 hc0_1 hr0_2 hc0_2 h
 cases k with
 | zero => exact absurd h (by simp [nodes_printed.f])
 | succ k =>
 simp only [nodes_printed.f] at h
 have hu44 := Tryz.underlying44
 have HR0_1 := Aside0.mk hr0_1
 have HC0_1 := Aside0.mk hc0_1
 clear hr0_1 hc0_1
 have HR0_2 := Aside0.mk hr0_2
 have HC0_2 := Aside0.mk hc0_2
 clear hr0_2 hc0_2
 have HB := Aside0.mk (Below.refl w.heap.size w)
 have H : ((nodes_must.f (decide (a1 < 32)) 41 0).bind fun _ => ((nodes_tagged.f k a0_0 0).bind fun _ => ((nodes_compound.f a0_0).bind fun t270 => (if t270 = true then ((nodes_must.f ((l0_1.length : Int) == 0) 43 0).bind fun _ => (nodes_printed.l0 k a1 ([] : List (List Int)) l0_2 (l0_2.length : Int) 0 a0_0 l0_1 l0_2)) else (if (l0_2.length : Int) = 0 then ((nodes_right.f k a0_0 l0_1).bind fun t271 => ((nodes_must.f t271 43 0).bind fun _ => ((tlv_Put.f a0_0 l0_1).bind fun bt272 => ((nodes_must.f (bt272.2 == 0) bt272.2 0).bind fun _ => (some bt272.1))))) else ((nodes_must.f false 43 0).bind fun _ => ((tlv_Put.f a0_0 l0_1).bind fun bt276 => ((nodes_must.f (bt276.2 == 0) bt276.2 0).bind fun _ => (some bt276.1))))))))) = some r := h
 clear h
 replace H := Option.bind_eq_some_iff.mp H
 obtain ⟨_, A30, H⟩ := H
 replace H : ((nodes_tagged.f k a0_0 0).bind fun _ => ((nodes_compound.f a0_0).bind fun t270 => (if t270 = true then ((nodes_must.f ((l0_1.length : Int) == 0) 43 0).bind fun _ => (nodes_printed.l0 k a1 ([] : List (List Int)) l0_2 (l0_2.length : Int) 0 a0_0 l0_1 l0_2)) else (if (l0_2.length : Int) = 0 then ((nodes_right.f k a0_0 l0_1).bind fun t271 => ((nodes_must.f t271 43 0).bind fun _ => ((tlv_Put.f a0_0 l0_1).bind fun bt272 => ((nodes_must.f (bt272.2 == 0) bt272.2 0).bind fun _ => (some bt272.1))))) else ((nodes_must.f false 43 0).bind fun _ => ((tlv_Put.f a0_0 l0_1).bind fun bt276 => ((nodes_must.f (bt276.2 == 0) bt276.2 0).bind fun _ => (some bt276.1)))))))) = some r := H
 have A3 := Aside0.mk A30
 clear A30
 replace H := Option.bind_eq_some_iff.mp H
 obtain ⟨_, A40, H⟩ := H
 replace H : ((nodes_compound.f a0_0).bind fun t270 => (if t270 = true then ((nodes_must.f ((l0_1.length : Int) == 0) 43 0).bind fun _ => (nodes_printed.l0 k a1 ([] : List (List Int)) l0_2 (l0_2.length : Int) 0 a0_0 l0_1 l0_2)) else (if (l0_2.length : Int) = 0 then ((nodes_right.f k a0_0 l0_1).bind fun t271 => ((nodes_must.f t271 43 0).bind fun _ => ((tlv_Put.f a0_0 l0_1).bind fun bt272 => ((nodes_must.f (bt272.2 == 0) bt272.2 0).bind fun _ => (some bt272.1))))) else ((nodes_must.f false 43 0).bind fun _ => ((tlv_Put.f a0_0 l0_1).bind fun bt276 => ((nodes_must.f (bt276.2 == 0) bt276.2 0).bind fun _ => (some bt276.1))))))) = some r := H
 have A4 := Aside0.mk A40
 clear A40
 replace H := Option.bind_eq_some_iff.mp H
 obtain ⟨t270, A50, H⟩ := H
 replace H : (if t270 = true then ((nodes_must.f ((l0_1.length : Int) == 0) 43 0).bind fun _ => (nodes_printed.l0 k a1 ([] : List (List Int)) l0_2 (l0_2.length : Int) 0 a0_0 l0_1 l0_2)) else (if (l0_2.length : Int) = 0 then ((nodes_right.f k a0_0 l0_1).bind fun t271 => ((nodes_must.f t271 43 0).bind fun _ => ((tlv_Put.f a0_0 l0_1).bind fun bt272 => ((nodes_must.f (bt272.2 == 0) bt272.2 0).bind fun _ => (some bt272.1))))) else ((nodes_must.f false 43 0).bind fun _ => ((tlv_Put.f a0_0 l0_1).bind fun bt276 => ((nodes_must.f (bt276.2 == 0) bt276.2 0).bind fun _ => (some bt276.1)))))) = some r := H
 have A5 := Aside0.mk A50
 clear A50
 by_cases c6 : t270 = true
 ·subst c6
  have H1 : ((nodes_must.f ((l0_1.length : Int) == 0) 43 0).bind fun _ => (nodes_printed.l0 k a1 ([] : List (List Int)) l0_2 (l0_2.length : Int) 0 a0_0 l0_1 l0_2)) = some r := by rw [if_pos rfl] at H; exact H
  clear H
  have H := H1
  clear H1
  replace H := Option.bind_eq_some_iff.mp H
  obtain ⟨_, A70, H⟩ := H
  replace H : (nodes_printed.l0 k a1 ([] : List (List Int)) l0_2 (l0_2.length : Int) 0 a0_0 l0_1 l0_2) = some r := H
  have A7 := Aside0.mk A70
  clear A70
  have H' := Aside0.mk H
  clear H
  go_enter Tryz.func23, Tryz.ntmps23
  go_wp2_with (first | ((with_reducible refine gate_dst (N := 2) rfl ?_); refine box_event ?hg (N := 2) ?hd (cs := #[.int .u8 a0_0, .slice A0_1 l0_1.length c0_1, .slice A0_2 l0_2.length c0_2]) (t := 44) ?hr ?_; (case hd => rfl); (case hg => rfl); (case hr => first | (go_simp; done) | (go_simp; rfl)); intro gb269 hg w8 hbox hb; have n0_ := Aside0.mk (below_step (by repeat (first | (with_reducible first | exact HB.out | apply below_alloc | apply pw_below_drewN | apply below_drew1) | exact HB.out)) hb); have n1_ := Aside0.mk (hbox); have n2_ := Aside0.mk ((by rw [hg]; exact (below_size (by repeat (first | (with_reducible first | exact HB.out | apply below_alloc | apply pw_below_drewN | apply below_drew1) | exact HB.out))) : w.heap.size ≤ gb269)); have n3_ := Aside0.mk ((by rw [hg]; exact (below_size (by repeat (first | (with_reducible first | exact HB.out | apply below_alloc | apply pw_below_drewN | apply below_drew1) | exact HB.out))) : w.heap.size ≤ gb269)); clear HB; have HB := n0_; have BK269 := n1_; have GW269 := n2_; have GE269 := n3_; clear n0_ n1_ n2_ n3_; clear hb hbox hg) | ((with_reducible refine gate_callee (f := 51) rfl ?_); refine goesL_ (some 14) rfl rfl Tryz.func51 (by kernel_rfl) rfl #[.bool (decide (a1 < 32)), .int .i64 41, .int .i64 0] rfl (by (try simp only [List.map_toArray, List.map_cons, List.map_nil]); first | done | rfl | (simp only [List.length_drop, List.length_take]; rfl)) ?_; (with_reducible refine (nodes_must.calls (decide (a1 < 32)) 41 0  _ A3.out).mono ?_); rintro e w' ⟨rfl, ⟨nd, rfl⟩⟩; refine ⟨_, rfl, ?_⟩; have hcz9_0 : w8.cell? ⟨gb269, 0, none⟩ = some (.int .u8 a0_0) := (blk_cell BK269.out 0).trans rfl; have hcz9_1 : w8.cell? ⟨gb269, 1, none⟩ = some (.slice A0_1 l0_1.length c0_1) := (blk_cell BK269.out 1).trans rfl; have hcz9_2 : w8.cell? ⟨gb269, 2, none⟩ = some (.slice A0_2 l0_2.length c0_2) := (blk_cell BK269.out 2).trans rfl; have hfz9_0 := blk_frozen BK269.out 0; have hfz9_1 := blk_frozen BK269.out 1; have hfz9_2 := blk_frozen BK269.out 2) | ((with_reducible refine gate_callee (f := 52) rfl ?_); refine goesL_ (some 17) rfl rfl Tryz.func52 (by kernel_rfl) rfl #[.int .u8 a0_0, .int .i64 0] rfl (by (try simp only [List.map_toArray, List.map_cons, List.map_nil]); first | done | rfl | (simp only [List.length_drop, List.length_take]; rfl)) ?_; (with_reducible refine (nodes_tagged.calls k a0_0 0  _ A4.out).mono ?_); rintro e w10 ⟨rfl, hb⟩; refine ⟨_, rfl, ?_⟩; have n0_ := Aside0.mk (blk_below (g := gb269) (o := .cells #[.int .u8 a0_0, .slice A0_1 l0_1.length c0_1, .slice A0_2 l0_2.length c0_2] 44 (0, 0)) (by (with_reducible repeat (first | refine blk_drewN ?_ _ | refine blk_drew ?_ | refine blk_alloc ?_ _)); exact BK269.out) hb); have n1_ := Aside0.mk (below_step (by repeat (first | (with_reducible first | exact HB.out | apply below_alloc | apply pw_below_drewN | apply below_drew1 | refine below_set ?_ GE269.out) | exact HB.out)) hb); clear BK269; clear HB; have BK269 := n0_; have HB := n1_; clear n0_ n1_; (try clear hb); (try clear hb2); (try clear hk); (try clear hi); have hcz11_0 : w10.cell? ⟨gb269, 0, none⟩ = some (.int .u8 a0_0) := (blk_cell BK269.out 0).trans rfl; have hcz11_1 : w10.cell? ⟨gb269, 1, none⟩ = some (.slice A0_1 l0_1.length c0_1) := (blk_cell BK269.out 1).trans rfl; have hcz11_2 : w10.cell? ⟨gb269, 2, none⟩ = some (.slice A0_2 l0_2.length c0_2) := (blk_cell BK269.out 2).trans rfl; have hfz11_0 := blk_frozen BK269.out 0; have hfz11_1 := blk_frozen BK269.out 1; have hfz11_2 := blk_frozen BK269.out 2) | ((with_reducible refine gate_callee (f := 53) rfl ?_); refine goesL_ (some 20) rfl rfl Tryz.func53 (by kernel_rfl) rfl #[.int .u8 a0_0] rfl (by (try simp only [List.map_toArray, List.map_cons, List.map_nil]); first | done | rfl | (simp only [List.length_drop, List.length_take]; rfl)) ?_; (with_reducible refine (nodes_compound.calls a0_0 true _ A5.out).mono ?_); rintro e w' ⟨rfl, ⟨nd, rfl⟩⟩; refine ⟨_, rfl, ?_⟩) | ((with_reducible refine gate_callee (f := 51) rfl ?_); refine goesL_ (some 51) rfl rfl Tryz.func51 (by kernel_rfl) rfl #[.bool ((l0_1.length : Int) == 0), .int .i64 43, .int .i64 0] rfl (by (try simp only [List.map_toArray, List.map_cons, List.map_nil]); first | done | rfl | (simp only [List.length_drop, List.length_take]; rfl)) ?_; (with_reducible refine (nodes_must.calls ((l0_1.length : Int) == 0) 43 0  _ A7.out).mono ?_); rintro e w' ⟨rfl, ⟨nd, rfl⟩⟩; refine ⟨_, rfl, ?_⟩))
  go_loopg [7, 55] k (fun kq v7 v55 w' => ∃ (x7_1 : List (List Int)) (x55_1 : Int), v55 = .int .i64 x55_1 ∧ Aside0 (nodes_printed.l0 kq a1 x7_1 l0_2 (l0_2.length : Int) x55_1 a0_0 l0_1 l0_2 = some r) ∧ Aside0 (kq ≤ k) ∧ Aside0 (Kd.S (Kd.slice 5 (Kd.int .u8)) 25 w' w.heap.size (fun _ => True) v7 x7_1) ∧ Aside0 (w'.heap[gb269]? = some (.cells #[.int .u8 a0_0, (.slice A0_1 l0_1.length c0_1), (.slice A0_2 l0_2.length c0_2)] 44 (0, 0))) ∧ Aside0 (Below w.heap.size w w'))
  case atStart => exact ⟨(([] : List (List Int))), (0), (by first | rfl | (simp; done) | (simp [*]; done)), H', ⟨Nat.le_refl _⟩, ⟨by first | exact Kd.S_nil _ _ _ _ _ | exact Kd.N_nil _ _ _ _ _ | exact Kd.V_nil _ _ _ _ _ | exact Kd.Q_nil _ _ _ _ _ | exact Kd.R_nil _ _ _ _ _⟩, ⟨by (with_reducible repeat (first | refine blk_drewN ?_ _ | refine blk_drew ?_ | refine blk_alloc ?_ _)); exact BK269.out⟩, ⟨by repeat (first | (with_reducible first | exact HB.out | apply below_alloc | apply pw_below_drewN | apply below_drew1 | refine below_set ?_ GE269.out) | exact HB.out)⟩⟩
  case round =>
   clear H'
   try clear c2
   try clear p2
   try clear c5
   try clear c6
   try clear hcz11_0
   try clear hcz11_1
   try clear hcz11_2
   try clear hcz9_0
   try clear hcz9_1
   try clear hcz9_2
   try clear hfz11_0
   try clear hfz11_1
   try clear hfz11_2
   try clear hfz9_0
   try clear hfz9_1
   try clear hfz9_2
   obtain ⟨x7_1, x55_1, rfl, HA, HK1, HO_7, BK269, HB⟩ := hrel
   cases gk with
   | zero => exact absurd HA.out (by simp [nodes_printed.l0])
   | succ k1 =>
    have H := HA.out
    clear HA
    simp only [nodes_printed.l0] at H
    by_cases c12 : x55_1 < (l0_2.length : Int)
    ·rw [if_pos c12] at H
     have c12b0 : decide (x55_1 < (l0_2.length : Int)) = true := decide_eq_true c12
     clear c12
     by_cases c13 : 0 ≤ x55_1
     ·rw [if_pos c13] at H
      have c13b0 : decide (0 ≤ x55_1) = true := decide_eq_true c13
      clear c13
      by_cases c14 : x55_1 < (l0_2.length : Int)
      ·rw [if_pos c14] at H
       have c14b0 : decide (x55_1 < (l0_2.length : Int)) = true := decide_eq_true c14
       clear c14
       replace H := Option.bind_eq_some_iff.mp H
       obtain ⟨t282, A150, H⟩ := H
       replace H : (if x7_1.length < 5864062014805 then (nodes_printed.l0 k1 a1 (x7_1 ++ [t282]) l0_2 (l0_2.length : Int) (wrap64 (x55_1 + 1)) a0_0 l0_1 l0_2) else (none)) = some r := H
       have A15 := Aside0.mk A150
       clear A150
       by_cases c16 : x7_1.length < 5864062014805
       ·rw [if_pos c16] at H
        have LMc16 := Aside0.mk c16
        clear c16
        obtain ⟨y285, hy285⟩ : ∃ y_ : List (List Int), y_ = (x7_1 ++ [t282]) := ⟨_, rfl⟩
        replace H : (nodes_printed.l0 k1 a1 y285 l0_2 (l0_2.length : Int) (wrap64 (x55_1 + 1)) a0_0 l0_1 l0_2) = some r := by first | (rw [hy285]; with_reducible exact H) | (have H2_ := (Option.bind_some _ _).symm.trans H; rw [hy285]; with_reducible exact H2_) | (have H2_ := (Option.bind_some _ _).symm.trans H; with_reducible exact H2_) | with_reducible exact H | (rw [hy285]; exact H) | exact H
        have Ny285 := Aside0.mk hy285
        clear hy285
        have H' := Aside0.mk H
        clear H
        have p280 : 0 ≤ (x55_1 : Int) := of_decide_eq_true (by first | (with_reducible assumption) | assumption)
        have q280 : x55_1 < (l0_2.length : Int) := of_decide_eq_true (by first | (with_reducible assumption) | assumption)
        obtain ⟨ad280, A280_1, c280_1, A280_2, c280_2, e280, hx280_0, hx280_1, hx280_2, hl280_1, hi280_1, hl280_2, hi280_2⟩ := at_T44 HR0_2.out x55_1 p280 q280
        cases e280
        replace hx280_0 := (HB.out.cell (World.block_lt_of_cell? w _ hx280_0)).trans hx280_0
        replace hx280_1 := (HB.out.cell (World.block_lt_of_cell? w _ hx280_1)).trans hx280_1
        replace hx280_2 := (HB.out.cell (World.block_lt_of_cell? w _ hx280_2)).trans hx280_2
        have HR280_1 := Aside0.mk hi280_1
        have HC280_1 := Aside0.mk hl280_1
        clear hi280_1 hl280_1
        have HR280_2 := Aside0.mk hi280_2
        have HC280_2 := Aside0.mk hl280_2
        clear hi280_2 hl280_2
        replace p280 := eq_true p280
        replace q280 := eq_true q280
        go_wp2_with (first | ((with_reducible refine gate_dst (N := 9) rfl ?_); refine box_event ?hg (N := 9) ?hd (cs := #[.int .u8 0, .slice none 0 0, .slice none 0 0]) (t := 44) ?hr ?_; (case hd => rfl); (case hg => rfl); (case hr => first | (go_simp; done) | (go_simp; rfl)); intro gb281 hg w17 hbox hb; have n0_ := Aside0.mk (Kd.S_below (by (with_reducible repeat (first | apply Kd.S_alloc | apply Kd.S_drewN | apply Kd.S_drew)); exact HO_7.out) hb); have n1_ := Aside0.mk (blk_below (g := gb269) (o := .cells #[.int .u8 a0_0, .slice A0_1 l0_1.length c0_1, .slice (some ad280) l0_2.length c0_2] 44 (0, 0)) (by (with_reducible repeat (first | refine blk_drewN ?_ _ | refine blk_drew ?_ | refine blk_alloc ?_ _)); exact BK269.out) hb); have n2_ := Aside0.mk (below_step (by repeat (first | (with_reducible first | exact HB.out | apply below_alloc | apply pw_below_drewN | apply below_drew1 | refine below_set ?_ GE269.out) | exact HB.out)) hb); have n3_ := Aside0.mk (hbox); have n4_ := Aside0.mk ((by rw [hg]; exact (below_size (by repeat (first | (with_reducible first | exact HB.out | apply below_alloc | apply pw_below_drewN | apply below_drew1 | refine below_set ?_ GE269.out) | exact HB.out))) : w.heap.size ≤ gb281)); have n5_ := Aside0.mk ((by rw [hg]; exact (below_size (by repeat (first | (with_reducible first | exact HB.out | apply below_alloc | apply pw_below_drewN | apply below_drew1 | refine below_set ?_ GE269.out) | exact HB.out))) : w.heap.size ≤ gb281)); have n6_ := Aside0.mk ((by rw [hg]; exact Nat.ne_of_lt (blk_lt (g := gb269) (o := .cells #[.int .u8 a0_0, .slice A0_1 l0_1.length c0_1, .slice (some ad280) l0_2.length c0_2] 44 (0, 0)) (by (with_reducible repeat (first | refine blk_drewN ?_ _ | refine blk_drew ?_ | refine blk_alloc ?_ _)); exact BK269.out)) : gb269 ≠ gb281)); have n7_ := Aside0.mk ((by rw [hg]; exact Nat.ne_of_gt (blk_lt (g := gb269) (o := .cells #[.int .u8 a0_0, .slice A0_1 l0_1.length c0_1, .slice (some ad280) l0_2.length c0_2] 44 (0, 0)) (by (with_reducible repeat (first | refine blk_drewN ?_ _ | refine blk_drew ?_ | refine blk_alloc ?_ _)); exact BK269.out)) : gb281 ≠ gb269)); clear HO_7; clear BK269; clear HB; have HO_7 := n0_; have BK269 := n1_; have HB := n2_; have BK281 := n3_; have GW281 := n4_; have GE281 := n5_; have NB269_281 := n6_; have NB281_269 := n7_; clear n0_ n1_ n2_ n3_ n4_ n5_ n6_ n7_; clear hb hbox hg; have hnb18 := NB281_269.out; have hnc18 := NB269_281.out; have hcz19_0 : w17.cell? ⟨gb281, 0, none⟩ = some (.int .u8 0) := (blk_cell BK281.out 0).trans rfl; have hcz19_1 : w17.cell? ⟨gb281, 1, none⟩ = some (.slice none 0 0) := (blk_cell BK281.out 1).trans rfl; have hcz19_2 : w17.cell? ⟨gb281, 2, none⟩ = some (.slice none 0 0) := (blk_cell BK281.out 2).trans rfl; have hfz19_0 := blk_frozen BK281.out 0; have hfz19_1 := blk_frozen BK281.out 1; have hfz19_2 := blk_frozen BK281.out 2) | ((with_reducible refine gate_callee (f := 23) rfl ?_); refine goesL_ (some 63) rfl rfl Tryz.func23 (by kernel_rfl) rfl #[.agg #[.int .u8 ((rd_T44 l0_2 x55_1).f0), .slice A280_1 ((rd_T44 l0_2 x55_1).f1).length c280_1, .slice A280_2 ((rd_T44 l0_2 x55_1).f2).length c280_2], .int .i64 (wrap64 (a1 + 1))] rfl (by (try simp only [List.map_toArray, List.map_cons, List.map_nil]); first | done | rfl | (simp only [List.length_drop, List.length_take]; rfl)) ?_; (with_reducible refine (ih k1 (by have := HK1.out; omega) ((rd_T44 l0_2 x55_1).f0) _ _ ((rd_T44 l0_2 x55_1).f1) _ _ ((rd_T44 l0_2 x55_1).f2) (wrap64 (a1 + 1)) t282 _ ?side1 ?side2 ?side3 ?side4 A15.out).mono ?_); (case side1 => exact Kd.C_below HR280_1.out (by repeat (first | (with_reducible first | exact HB.out | apply below_alloc | apply pw_below_drewN | apply below_drew1 | refine below_set ?_ GE269.out | refine below_set ?_ GE281.out) | exact HB.out))); (case side2 => exact HC280_1.out); (case side3 => exact Kd.C_below HR280_2.out (by repeat (first | (with_reducible first | exact HB.out | apply below_alloc | apply pw_below_drewN | apply below_drew1 | refine below_set ?_ GE269.out | refine below_set ?_ GE281.out) | exact HB.out))); (case side4 => exact HC280_2.out); rintro e w20 ⟨v283, rfl, ho0, hb⟩; refine ⟨_, rfl, ?_⟩; have n0_ := Aside0.mk (Kd.S_elder' (by (with_reducible repeat (first | apply Kd.S_alloc | apply Kd.S_drewN | apply Kd.S_drew)); exact (Kd.S_mono (Kd.S_far (p := ⟨gb281, 2, none⟩) (Kd.S_far (p := ⟨gb281, 1, none⟩) (Kd.S_far (p := ⟨gb281, 0, none⟩) (Kd.S_types HO_7.out BK281.out (by decide)) (fun _ hk => hk.2) (.int .u8 ((rd_T44 l0_2 x55_1).f0))) (fun _ hk => hk.2) (.slice A280_1 ((rd_T44 l0_2 x55_1).f1).length c280_1)) (fun _ hk => hk.2) (.slice A280_2 ((rd_T44 l0_2 x55_1).f2).length c280_2)) (fun _ h_ => h_.1))) (Kd.R_base ho0) hb); have n1_ := Aside0.mk (Kd.R_lower ho0 (below_size (by repeat (first | (with_reducible first | exact HB.out | apply below_alloc | apply pw_below_drewN | apply below_drew1 | refine below_set ?_ GE269.out | refine below_set ?_ GE281.out) | exact HB.out)))); have n2_ := Aside0.mk (blk_below (g := gb269) (o := .cells #[.int .u8 a0_0, .slice A0_1 l0_1.length c0_1, .slice (some ad280) l0_2.length c0_2] 44 (0, 0)) (by (with_reducible repeat (first | refine blk_drewN ?_ _ | refine blk_drew ?_ | refine blk_alloc ?_ _)); refine blk_far ?_ NB269_281.out _; (with_reducible repeat (first | refine blk_drewN ?_ _ | refine blk_drew ?_ | refine blk_alloc ?_ _)); refine blk_far ?_ NB269_281.out _; (with_reducible repeat (first | refine blk_drewN ?_ _ | refine blk_drew ?_ | refine blk_alloc ?_ _)); refine blk_far ?_ NB269_281.out _; (with_reducible repeat (first | refine blk_drewN ?_ _ | refine blk_drew ?_ | refine blk_alloc ?_ _)); exact BK269.out) hb); have n3_ := Aside0.mk (blk_below (g := gb281) (o := .cells #[.int .u8 ((rd_T44 l0_2 x55_1).f0), .slice A280_1 ((rd_T44 l0_2 x55_1).f1).length c280_1, .slice A280_2 ((rd_T44 l0_2 x55_1).f2).length c280_2] 44 (0, 0)) (by (with_reducible repeat (first | refine blk_drewN ?_ _ | refine blk_drew ?_ | refine blk_alloc ?_ _)); refine blk_put (cs := #[.int .u8 ((rd_T44 l0_2 x55_1).f0), .slice A280_1 ((rd_T44 l0_2 x55_1).f1).length c280_1, .slice none 0 0]) ?_ 2 _ rfl; (with_reducible repeat (first | refine blk_drewN ?_ _ | refine blk_drew ?_ | refine blk_alloc ?_ _)); refine blk_put (cs := #[.int .u8 ((rd_T44 l0_2 x55_1).f0), .slice none 0 0, .slice none 0 0]) ?_ 1 _ rfl; (with_reducible repeat (first | refine blk_drewN ?_ _ | refine blk_drew ?_ | refine blk_alloc ?_ _)); refine blk_put (cs := #[.int .u8 0, .slice none 0 0, .slice none 0 0]) ?_ 0 _ rfl; (with_reducible repeat (first | refine blk_drewN ?_ _ | refine blk_drew ?_ | refine blk_alloc ?_ _)); exact BK281.out) hb); have n4_ := Aside0.mk (below_step (by repeat (first | (with_reducible first | exact HB.out | apply below_alloc | apply pw_below_drewN | apply below_drew1 | refine below_set ?_ GE269.out | refine below_set ?_ GE281.out) | exact HB.out)) hb); clear HO_7; clear BK269; clear BK281; clear HB; have HO_7 := n0_; have HO284 := n1_; have BK269 := n2_; have BK281 := n3_; have HB := n4_; clear n0_ n1_ n2_ n3_ n4_; (try clear hb); (try clear hb2); (try clear hk); (try clear hi); (try clear ho0); obtain ⟨Ao22, co22, eo22⟩ := Kd.R_slice HO284.out; subst eo22) | ((with_reducible refine gate_builtin (b := .append) (xs := #[.tmp 59, .tmp 64]) rfl ?_); at_builtin; refine Kd.S_append (Kd.slice 5 (Kd.int .u8)) (w0 := w) w.heap.size rfl (.tmp 59) (.tmp 64) 99 25 (.slice none 0 0) 24 rfl Tryz.underlying99 info25 rfl (by decide) (by omega) u7 x7_1 t282 [.slice Ao22 t282.length co22] (fun _ => True) (fun k_ => some k_ = (.slice Ao22 t282.length co22 : Value).ownBlock) rfl rfl ?aP (fun k_ hk_ => ((Kd.R_mono (ok' := fun k_ => ((fun _ => True)) k_ ∧ some k_ ≠ (u7 : Value).ownBlock) (Kd.R_apart' (HO284.out) (Kd.S_typed HO_7.out) (by decide)) (fun k_ hk => ⟨trivial, hk.2⟩))).1 k_ hk_.symm) ?aF ?aO ?aB ?aS ?aL ?_; (case aP => exact Kd.M_row (Kd.R_mono (Kd.R_tight rfl (Kd.R_mono (ok' := fun k_ => ((fun _ => True)) k_ ∧ some k_ ≠ (u7 : Value).ownBlock) (Kd.R_apart' (HO284.out) (Kd.S_typed HO_7.out) (by decide)) (fun k_ hk => ⟨trivial, hk.2⟩))) (fun _ h_ => h_))); (case aB => exact (by repeat (first | (with_reducible first | exact HB.out | apply below_alloc | apply pw_below_drewN | apply below_drew1 | refine below_set ?_ GE269.out | refine below_set ?_ GE281.out) | exact HB.out))); (case aF => exact (fun _ _ => trivial)); (case aO => exact (by (with_reducible repeat (first | apply Kd.S_alloc | apply Kd.S_drewN | apply Kd.S_drew)); exact Kd.S_mono HO_7.out (fun k_ hk => ⟨trivial, fun e_ => hk.2 e_⟩))); (case aS => exact (below_size (by repeat (first | (with_reducible first | exact HB.out | apply below_alloc | apply pw_below_drewN | apply below_drew1 | refine below_set ?_ GE269.out | refine below_set ?_ GE281.out) | exact HB.out)))); (case aL => have := LMc16.out; omega); intro v286 w21 ho hb hg hat; rw [← Ny285.out] at ho; have n0_ := Aside0.mk (blk_grown (g := gb269) (o := .cells #[.int .u8 a0_0, .slice A0_1 l0_1.length c0_1, .slice (some ad280) l0_2.length c0_2] 44 (0, 0)) (by (with_reducible repeat (first | refine blk_drewN ?_ _ | refine blk_drew ?_ | refine blk_alloc ?_ _)); exact BK269.out) hg (Kd.S_ne HO_7.out BK269.out (by decide))); have n1_ := Aside0.mk (blk_grown (g := gb281) (o := .cells #[.int .u8 ((rd_T44 l0_2 x55_1).f0), .slice A280_1 ((rd_T44 l0_2 x55_1).f1).length c280_1, .slice A280_2 ((rd_T44 l0_2 x55_1).f2).length c280_2] 44 (0, 0)) (by (with_reducible repeat (first | refine blk_drewN ?_ _ | refine blk_drew ?_ | refine blk_alloc ?_ _)); exact BK281.out) hg (Kd.S_ne HO_7.out BK281.out (by decide))); have n2_ := Aside0.mk (hb); have n3_ := Aside0.mk (ho); clear BK269; clear BK281; clear HB; clear HO_7; clear HO284; have BK269 := n0_; have BK281 := n1_; have HB := n2_; have HO287 := n3_; clear n0_ n1_ n2_ n3_; clear ho hb hg hat))
        go_roundg k1
        case measure => have := HK1.out; omega
        case rel => exact ⟨(y285), (wrap64 (x55_1 + 1)), (by first | rfl | (simp; done) | (simp [*]; done)), H', ⟨by have := HK1.out; omega⟩, ⟨by (with_reducible repeat (first | apply Kd.S_alloc | apply Kd.S_drewN | apply Kd.S_drew)); exact HO287.out⟩, ⟨by (with_reducible repeat (first | refine blk_drewN ?_ _ | refine blk_drew ?_ | refine blk_alloc ?_ _)); exact BK269.out⟩, ⟨by repeat (first | (with_reducible first | exact HB.out | apply below_alloc | apply pw_below_drewN | apply below_drew1 | refine below_set ?_ GE269.out | refine below_set ?_ GE281.out) | exact HB.out)⟩⟩
       ·rw [if_neg c16] at H
        exact absurd H (by simp)
      ·rw [if_neg c14] at H
       exact absurd H (by simp)
     ·rw [if_neg c13] at H
      exact absurd H (by simp)
    ·rw [if_neg c12] at H
     have c12b0 : decide (x55_1 < (l0_2.length : Int)) = false := decide_eq_false c12
     clear c12
     replace H := Option.bind_eq_some_iff.mp H
     obtain ⟨_, A230, H⟩ := H
     replace H : ((slices_Concat_byte_byte.f x7_1).bind fun t288 => ((tlv_Put.f a0_0 t288).bind fun bt291 => ((nodes_must.f (bt291.2 == 0) bt291.2 0).bind fun _ => (some bt291.1)))) = some r := H
     have A23 := Aside0.mk A230
     clear A230
     replace H := Option.bind_eq_some_iff.mp H
     obtain ⟨t288, A240, H⟩ := H
     replace H : ((tlv_Put.f a0_0 t288).bind fun bt291 => ((nodes_must.f (bt291.2 == 0) bt291.2 0).bind fun _ => (some bt291.1))) = some r := H
     have A24 := Aside0.mk A240
     clear A240
     replace H := Option.bind_eq_some_iff.mp H
     obtain ⟨⟨t291, t292⟩, A250, H⟩ := H
     replace H : ((nodes_must.f (t292 == 0) t292 0).bind fun _ => (some t291)) = some r := H
     have A25 := Aside0.mk A250
     clear A250
     replace H := Option.bind_eq_some_iff.mp H
     obtain ⟨_, A260, H⟩ := H
     replace H : (some t291) = some r := H
     have A26 := Aside0.mk A260
     clear A260
     obtain rfl := Option.some.inj H
     have hcz27_0 : wr.cell? ⟨gb269, 0, none⟩ = some (.int .u8 a0_0) := (blk_cell BK269.out 0).trans rfl
     have hcz27_1 : wr.cell? ⟨gb269, 1, none⟩ = some (.slice A0_1 l0_1.length c0_1) := (blk_cell BK269.out 1).trans rfl
     have hcz27_2 : wr.cell? ⟨gb269, 2, none⟩ = some (.slice A0_2 l0_2.length c0_2) := (blk_cell BK269.out 2).trans rfl
     have hfz27_0 := blk_frozen BK269.out 0
     have hfz27_1 := blk_frozen BK269.out 1
     have hfz27_2 := blk_frozen BK269.out 2
     obtain ⟨Ao28, co28, eo28⟩ := Kd.S_slice HO_7.out
     subst eo28
     try go_wp2_with (first | ((with_reducible refine gate_callee (f := 56) rfl ?_); refine goesL_ (some 70) rfl rfl Tryz.func56 (by kernel_rfl) rfl #[.int .u8 a0_0, .slice Ao28 x7_1.length co28, .int .i64 0] rfl (by (try simp only [List.map_toArray, List.map_cons, List.map_nil]); first | done | rfl | (simp only [List.length_drop, List.length_take]; rfl)) ?_; (with_reducible refine (nodes_rise.calls a0_0 _ _ x7_1 0  _ ?side1 ?side2 A23.out).mono ?_); (case side1 => repeat (first | exact (Kd.S_reads' HO_7.out).2.2 | (with_reducible refine Kd.C_alloc ?_ _) | (with_reducible refine Kd.C_drewN ?_ _) | (with_reducible refine Kd.C_drew ?_))); (case side2 => exact (Kd.S_reads' HO_7.out).2.1); rintro e w' ⟨rfl, ⟨nd, rfl⟩⟩; refine ⟨_, rfl, ?_⟩))
     (try (rw [drewN_self wr]; generalize hq_ : World.drewN wr _ = wr; have n0_ : Aside0 (Kd.S (Kd.slice 5 (Kd.int .u8)) 25 wr w.heap.size (fun _ => True) (.slice Ao28 x7_1.length co28) x7_1) := ⟨by rw [← hq_]; exact (by (with_reducible repeat (first | apply Kd.S_alloc | apply Kd.S_drewN | apply Kd.S_drew)); exact HO_7.out)⟩; have n1_ : Aside0 (wr.heap[gb269]? = some (.cells #[.int .u8 a0_0, .slice A0_1 l0_1.length c0_1, .slice A0_2 l0_2.length c0_2] 44 (0, 0))) := ⟨by rw [← hq_]; exact (by (with_reducible repeat (first | refine blk_drewN ?_ _ | refine blk_drew ?_ | refine blk_alloc ?_ _)); exact BK269.out)⟩; have n2_ : Aside0 (Below w.heap.size w wr) := ⟨by rw [← hq_]; exact (by repeat (first | (with_reducible first | exact HB.out | apply below_alloc | apply pw_below_drewN | apply below_drew1 | refine below_set ?_ GE269.out) | exact HB.out))⟩; clear HO_7 BK269 HB hq_; have HO_7 := n0_; have BK269 := n1_; have HB := n2_; clear n0_ n1_ n2_))
     have n0_ := Aside0.mk (Kd.S_drew HO_7.out)
     have n1_ := Aside0.mk (blk_drew BK269.out)
     have n2_ := Aside0.mk (below_drew1 HB.out)
     clear HO_7
     clear BK269
     clear HB
     have HO_7 := n0_
     have BK269 := n1_
     have HB := n2_
     clear n0_ n1_ n2_
     refine start_ (n := 10) (S := fun w' => w'.cell? ⟨gb269, 0, none⟩ = some (.int .u8 a0_0) ∧ w'.cell? ⟨gb269, 1, none⟩ = some (.slice A0_1 l0_1.length c0_1) ∧ w'.cell? ⟨gb269, 2, none⟩ = some (.slice A0_2 l0_2.length c0_2)) (ds := []) #[false, false, false, false, false, false, false, false, false, false] (by kernel_rfl) rfl rfl ⟨(blk_cell BK269.out 0).trans rfl, (blk_cell BK269.out 1).trans rfl, (blk_cell BK269.out 2).trans rfl⟩ (fun hHeld => ?_); refine with_tabW nodes_printed.tab16 nodes_printed.bits16 (fun HT_ HW_ => ?_)
     generalize wr.drew = w29 at HO_7 BK269 HB hHeld ⊢
     refine pure_ (i := 0) (N := some 72) (v := ?_) (a' := ?_) #[true, false, false, false, false, false, false, false, false, false] rfl rfl (any_of HT_.out (by kernel_rfl)) (fun _ _ _ h => h) (Or.inl ⟨by rfl, ?_⟩) ?_ ?_
     rotate_left
     ·intro w'
      go_simp
      with_reducible rfl
     rotate_left
     ·simp only [Act.put, List.setIfInBounds_toArray, List.set_cons_zero, List.set_cons_succ, i64_w, i32_w]
      rfl
     refine pure_ (i := 2) (N := some 74) (v := ?_) (a' := ?_) #[true, false, true, false, false, false, false, false, false, false] rfl rfl (any_of HT_.out (by kernel_rfl)) (fun _ _ _ h => h) (Or.inl ⟨by rfl, ?_⟩) ?_ ?_
     rotate_left
     ·intro w'
      go_simp
      with_reducible rfl
     rotate_left
     ·simp only [Act.put, List.setIfInBounds_toArray, List.set_cons_zero, List.set_cons_succ, i64_w, i32_w]
      rfl
     refine take_ (i := 1) (N := some 73) (v := ?_) (a' := ?_) #[true, true, true, false, false, false, false, false, false, false] rfl rfl (take_ofW HT_.out HW_.out (by kernel_rfl)) (fun _ _ _ h => h) (Or.inl ⟨by rfl, ?_⟩) hHeld ?_ ?_
     rotate_left
     ·rintro w' ⟨s0, s1, s2⟩
      go_simp
      with_reducible rfl
     rotate_left
     ·simp only [Act.put, List.setIfInBounds_toArray, List.set_cons_zero, List.set_cons_succ, i64_w, i32_w]
      rfl
     refine one_ (i := 3) (N := some 75) #[true, true, true, true, false, false, false, false, false, false] rfl rfl (one_of HT_.out (by kernel_rfl)) (by decide) (fun K hK => ?_)
     refine goes_ Tryz.func57 (by kernel_rfl) rfl #[.slice Ao28 x7_1.length co28] (by rfl) rfl rfl (by (try simp only [List.map_toArray, List.map_cons, List.map_nil]); first | done | rfl | (simp only [List.length_drop, List.length_take]; rfl)) ?_
     with_reducible refine (slices_Concat_byte_byte.calls _ _ x7_1 t288 _ ?side1 ?side2 A24.out).mono ?_
     (case side1 => repeat (first | exact (Kd.S_reads' HO_7.out).2.2 | (with_reducible refine Kd.C_alloc ?_ _) | (with_reducible refine Kd.C_drewN ?_ _) | (with_reducible refine Kd.C_drew ?_)))
     (case side2 => exact (Kd.S_reads' HO_7.out).2.1)
     rintro e w30 ⟨v289, rfl, ho0, hb⟩
     refine ⟨_, rfl, ?_⟩
     have n0_ := Aside0.mk (Kd.S_elder' (by (with_reducible repeat (first | apply Kd.S_alloc | apply Kd.S_drewN | apply Kd.S_drew)); exact HO_7.out) (Kd.R_base ho0) hb)
     have n1_ := Aside0.mk (Kd.R_lower ho0 (below_size (by repeat (first | (with_reducible first | exact HB.out | apply below_alloc | apply pw_below_drewN | apply below_drew1 | refine below_set ?_ GE269.out) | exact HB.out))))
     have n2_ := Aside0.mk (blk_below (g := gb269) (o := .cells #[.int .u8 a0_0, .slice A0_1 l0_1.length c0_1, .slice A0_2 l0_2.length c0_2] 44 (0, 0)) (by (with_reducible repeat (first | refine blk_drewN ?_ _ | refine blk_drew ?_ | refine blk_alloc ?_ _)); exact BK269.out) hb)
     have n3_ := Aside0.mk (below_step (by repeat (first | (with_reducible first | exact HB.out | apply below_alloc | apply pw_below_drewN | apply below_drew1 | refine below_set ?_ GE269.out) | exact HB.out)) hb)
     clear HO_7
     clear BK269
     clear HB
     have HO_7 := n0_
     have HO290 := n1_
     have BK269 := n2_
     have HB := n3_
     clear n0_ n1_ n2_ n3_
     (try clear hb)
     (try clear hb2)
     (try clear hk)
     (try clear hi)
     (try clear ho0)
     obtain ⟨Ao31, co31, eo31⟩ := Kd.R_slice HO290.out
     (first | subst eo31 | (injection eo31 with f1_ f2_ f3_; have f4_ := f1_.symm; have f5_ := f3_.symm; clear f1_ f2_ f3_; subst f4_; subst f5_))
     refine hK.out _ _ ⟨(blk_cell BK269.out 0).trans rfl, (blk_cell BK269.out 1).trans rfl, (blk_cell BK269.out 2).trans rfl⟩ (fun hHeld => ?_)
     clear hK K
     refine norm_ (a' := ?_) ?_ ?_
     rotate_left
     ·show Act.put _ (some 75) _ = _
      simp only [Act.put, List.setIfInBounds_toArray, List.set_cons_zero, List.set_cons_succ, i64_w, i32_w]
      rfl
     refine one_ (i := 4) (N := some 76) #[true, true, true, true, true, false, false, false, false, false] rfl rfl (one_of HT_.out (by kernel_rfl)) (by decide) (fun K hK => ?_)
     refine goes_ Tryz.func55 (by kernel_rfl) rfl #[.int .u8 a0_0, .slice Ao31 t288.length co31] (by rfl) rfl rfl (by (try simp only [List.map_toArray, List.map_cons, List.map_nil]); first | done | rfl | (simp only [List.length_drop, List.length_take]; rfl)) ?_
     with_reducible refine (tlv_Put.calls a0_0 _ _ t288 t291 t292 _ ?side1 ?side2 A25.out).mono ?_
     (case side1 => repeat (first | exact (Kd.R_reads' HO290.out).2.2 | (with_reducible refine Kd.C_alloc ?_ _) | (with_reducible refine Kd.C_drewN ?_ _) | (with_reducible refine Kd.C_drew ?_)))
     (case side2 => exact (Kd.R_reads' HO290.out).2.1)
     rintro e w32 ⟨v293, rfl, ho0, hb⟩
     refine ⟨_, rfl, ?_⟩
     have n0_ := Aside0.mk (Kd.S_elder' (by (with_reducible repeat (first | apply Kd.S_alloc | apply Kd.S_drewN | apply Kd.S_drew)); exact HO_7.out) (Kd.R_base ho0) hb)
     have n1_ := Aside0.mk (Kd.R_elder' (by (with_reducible repeat (first | apply Kd.R_alloc | apply Kd.R_drewN | apply Kd.R_drew)); exact HO290.out) (Kd.R_base ho0) hb)
     have n2_ := Aside0.mk (Kd.R_lower (Kd.R_new' ho0 (Kd.R_lt (by (with_reducible repeat (first | apply Kd.R_alloc | apply Kd.R_drewN | apply Kd.R_drew)); exact HO290.out))) (below_size (by repeat (first | (with_reducible first | exact HB.out | apply below_alloc | apply pw_below_drewN | apply below_drew1 | refine below_set ?_ GE269.out) | exact HB.out))))
     have n3_ := Aside0.mk (blk_below (g := gb269) (o := .cells #[.int .u8 a0_0, .slice A0_1 l0_1.length c0_1, .slice A0_2 l0_2.length c0_2] 44 (0, 0)) (by (with_reducible repeat (first | refine blk_drewN ?_ _ | refine blk_drew ?_ | refine blk_alloc ?_ _)); exact BK269.out) hb)
     have n4_ := Aside0.mk (below_step (by repeat (first | (with_reducible first | exact HB.out | apply below_alloc | apply pw_below_drewN | apply below_drew1 | refine below_set ?_ GE269.out) | exact HB.out)) hb)
     clear HO_7
     clear HO290
     clear BK269
     clear HB
     have HO_7 := n0_
     have HO290 := n1_
     have HO294 := n2_
     have BK269 := n3_
     have HB := n4_
     clear n0_ n1_ n2_ n3_ n4_
     (try clear hb)
     (try clear hb2)
     (try clear hk)
     (try clear hi)
     (try clear ho0)
     refine hK.out _ _ ⟨(blk_cell BK269.out 0).trans rfl, (blk_cell BK269.out 1).trans rfl, (blk_cell BK269.out 2).trans rfl⟩ (fun hHeld => ?_)
     clear hK K
     refine norm_ (a' := ?_) ?_ ?_
     rotate_left
     ·show Act.put _ (some 76) _ = _
      simp only [Act.put, List.setIfInBounds_toArray, List.set_cons_zero, List.set_cons_succ, i64_w, i32_w]
      rfl
     refine pure_ (i := 5) (N := some 71) (v := ?_) (a' := ?_) #[true, true, true, true, true, true, false, false, false, false] rfl rfl (any_of HT_.out (by kernel_rfl)) (fun _ _ _ h => h) (Or.inl ⟨by rfl, ?_⟩) ?_ ?_
     rotate_left
     ·intro w'
      go_simp
      with_reducible rfl
     rotate_left
     ·simp only [Act.put, List.setIfInBounds_toArray, List.set_cons_zero, List.set_cons_succ, i64_w, i32_w]
      rfl
     refine pure_ (i := 6) (N := some 77) (v := ?_) (a' := ?_) #[true, true, true, true, true, true, true, false, false, false] rfl rfl (any_of HT_.out (by kernel_rfl)) (fun _ _ _ h => h) (Or.inl ⟨by rfl, ?_⟩) ?_ ?_
     rotate_left
     ·intro w'
      go_simp
      with_reducible rfl
     rotate_left
     ·simp only [Act.put, List.setIfInBounds_toArray, List.set_cons_zero, List.set_cons_succ, i64_w, i32_w]
      rfl
     refine pure_ (i := 7) (N := some 78) (v := ?_) (a' := ?_) #[true, true, true, true, true, true, true, true, false, false] rfl rfl (any_of HT_.out (by kernel_rfl)) (fun _ _ _ h => h) (Or.inl ⟨by rfl, ?_⟩) ?_ ?_
     rotate_left
     ·intro w'
      go_simp
      with_reducible rfl
     rotate_left
     ·simp only [Act.put, List.setIfInBounds_toArray, List.set_cons_zero, List.set_cons_succ, i64_w, i32_w]
      rfl
     refine pure_ (i := 8) (N := some 10) (v := ?_) (a' := ?_) #[true, true, true, true, true, true, true, true, true, false] rfl rfl (any_of HT_.out (by kernel_rfl)) (fun _ _ _ h => h) (Or.inl ⟨by rfl, ?_⟩) ?_ ?_
     rotate_left
     ·intro w'
      go_simp
      with_reducible rfl
     rotate_left
     ·simp only [Act.put, List.setIfInBounds_toArray, List.set_cons_zero, List.set_cons_succ, i64_w, i32_w]
      rfl
     refine pure_ (i := 9) (N := some 11) (v := ?_) (a' := ?_) #[true, true, true, true, true, true, true, true, true, true] rfl rfl (any_of HT_.out (by kernel_rfl)) (fun _ _ _ h => h) (Or.inl ⟨by rfl, ?_⟩) ?_ ?_
     rotate_left
     ·intro w'
      go_simp
      with_reducible rfl
     rotate_left
     ·simp only [Act.put, List.setIfInBounds_toArray, List.set_cons_zero, List.set_cons_succ, i64_w, i32_w]
      rfl
     refine done_ (done_of HT_.out (by kernel_rfl)) ?_
     try go_wp2_with (first | ((with_reducible refine gate_callee (f := 51) rfl ?_); refine goesL_ (some 82) rfl rfl Tryz.func51 (by kernel_rfl) rfl #[.bool (t292 == 0), .int .i64 t292, .int .i64 0] rfl (by (try simp only [List.map_toArray, List.map_cons, List.map_nil]); first | done | rfl | (simp only [List.length_drop, List.length_take]; rfl)) ?_; (with_reducible refine (nodes_must.calls (t292 == 0) t292 0  _ A26.out).mono ?_); rintro e w' ⟨rfl, ⟨nd, rfl⟩⟩; refine ⟨_, rfl, ?_⟩))
     go_ret
     exact ⟨_, by first | rfl | (simp [errW_none, errW_some] <;> rfl) | (simp [*, errW_none, errW_some] <;> rfl), by (with_reducible repeat (first | apply Kd.R_alloc | apply Kd.R_drewN | apply Kd.R_drew)); exact Kd.R_mono HO294.out (fun _ hk => trivial), by repeat (first | (with_reducible first | exact HB.out | apply below_alloc | apply pw_below_drewN | apply below_drew1 | refine below_set ?_ GE269.out) | exact HB.out)⟩
 ·replace c6 := Bool.eq_false_iff.mpr c6
  subst c6
  have H1 : (if (l0_2.length : Int) = 0 then ((nodes_right.f k a0_0 l0_1).bind fun t271 => ((nodes_must.f t271 43 0).bind fun _ => ((tlv_Put.f a0_0 l0_1).bind fun bt272 => ((nodes_must.f (bt272.2 == 0) bt272.2 0).bind fun _ => (some bt272.1))))) else ((nodes_must.f false 43 0).bind fun _ => ((tlv_Put.f a0_0 l0_1).bind fun bt276 => ((nodes_must.f (bt276.2 == 0) bt276.2 0).bind fun _ => (some bt276.1))))) = some r := by rw [if_neg (show ¬ (false = true) by decide)] at H; exact H
  clear H
  have H := H1
  clear H1
  by_cases c33 : (l0_2.length : Int) = 0
  ·rw [if_pos c33] at H
   have c33b0 : ((l0_2.length : Int) == 0) = true := beq_iff_eq.mpr c33
   have c33b1 : ((l0_2.length : Int) != 0) = false := bne_eq_false_iff_eq.mpr c33
   clear c33
   replace H := Option.bind_eq_some_iff.mp H
   obtain ⟨t271, A340, H⟩ := H
   replace H : ((nodes_must.f t271 43 0).bind fun _ => ((tlv_Put.f a0_0 l0_1).bind fun bt272 => ((nodes_must.f (bt272.2 == 0) bt272.2 0).bind fun _ => (some bt272.1)))) = some r := H
   have A34 := Aside0.mk A340
   clear A340
   replace H := Option.bind_eq_some_iff.mp H
   obtain ⟨_, A350, H⟩ := H
   replace H : ((tlv_Put.f a0_0 l0_1).bind fun bt272 => ((nodes_must.f (bt272.2 == 0) bt272.2 0).bind fun _ => (some bt272.1))) = some r := H
   have A35 := Aside0.mk A350
   clear A350
   replace H := Option.bind_eq_some_iff.mp H
   obtain ⟨⟨t272, t273⟩, A360, H⟩ := H
   replace H : ((nodes_must.f (t273 == 0) t273 0).bind fun _ => (some t272)) = some r := H
   have A36 := Aside0.mk A360
   clear A360
   replace H := Option.bind_eq_some_iff.mp H
   obtain ⟨_, A370, H⟩ := H
   replace H : (some t272) = some r := H
   have A37 := Aside0.mk A370
   clear A370
   obtain rfl := Option.some.inj H
   go_enter Tryz.func23, Tryz.ntmps23
   go_wp2_with (first | ((with_reducible refine gate_dst (N := 2) rfl ?_); refine box_event ?hg (N := 2) ?hd (cs := #[.int .u8 a0_0, .slice A0_1 l0_1.length c0_1, .slice A0_2 l0_2.length c0_2]) (t := 44) ?hr ?_; (case hd => rfl); (case hg => rfl); (case hr => first | (go_simp; done) | (go_simp; rfl)); intro gb269 hg w38 hbox hb; have n0_ := Aside0.mk (below_step (by repeat (first | (with_reducible first | exact HB.out | apply below_alloc | apply pw_below_drewN | apply below_drew1) | exact HB.out)) hb); have n1_ := Aside0.mk (hbox); have n2_ := Aside0.mk ((by rw [hg]; exact (below_size (by repeat (first | (with_reducible first | exact HB.out | apply below_alloc | apply pw_below_drewN | apply below_drew1) | exact HB.out))) : w.heap.size ≤ gb269)); have n3_ := Aside0.mk ((by rw [hg]; exact (below_size (by repeat (first | (with_reducible first | exact HB.out | apply below_alloc | apply pw_below_drewN | apply below_drew1) | exact HB.out))) : w.heap.size ≤ gb269)); clear HB; have HB := n0_; have BK269 := n1_; have GW269 := n2_; have GE269 := n3_; clear n0_ n1_ n2_ n3_; clear hb hbox hg) | ((with_reducible refine gate_callee (f := 51) rfl ?_); refine goesL_ (some 14) rfl rfl Tryz.func51 (by kernel_rfl) rfl #[.bool (decide (a1 < 32)), .int .i64 41, .int .i64 0] rfl (by (try simp only [List.map_toArray, List.map_cons, List.map_nil]); first | done | rfl | (simp only [List.length_drop, List.length_take]; rfl)) ?_; (with_reducible refine (nodes_must.calls (decide (a1 < 32)) 41 0  _ A3.out).mono ?_); rintro e w' ⟨rfl, ⟨nd, rfl⟩⟩; refine ⟨_, rfl, ?_⟩; have hcz39_0 : w38.cell? ⟨gb269, 0, none⟩ = some (.int .u8 a0_0) := (blk_cell BK269.out 0).trans rfl; have hcz39_1 : w38.cell? ⟨gb269, 1, none⟩ = some (.slice A0_1 l0_1.length c0_1) := (blk_cell BK269.out 1).trans rfl; have hcz39_2 : w38.cell? ⟨gb269, 2, none⟩ = some (.slice A0_2 l0_2.length c0_2) := (blk_cell BK269.out 2).trans rfl; have hfz39_0 := blk_frozen BK269.out 0; have hfz39_1 := blk_frozen BK269.out 1; have hfz39_2 := blk_frozen BK269.out 2) | ((with_reducible refine gate_callee (f := 52) rfl ?_); refine goesL_ (some 17) rfl rfl Tryz.func52 (by kernel_rfl) rfl #[.int .u8 a0_0, .int .i64 0] rfl (by (try simp only [List.map_toArray, List.map_cons, List.map_nil]); first | done | rfl | (simp only [List.length_drop, List.length_take]; rfl)) ?_; (with_reducible refine (nodes_tagged.calls k a0_0 0  _ A4.out).mono ?_); rintro e w40 ⟨rfl, hb⟩; refine ⟨_, rfl, ?_⟩; have n0_ := Aside0.mk (blk_below (g := gb269) (o := .cells #[.int .u8 a0_0, .slice A0_1 l0_1.length c0_1, .slice A0_2 l0_2.length c0_2] 44 (0, 0)) (by (with_reducible repeat (first | refine blk_drewN ?_ _ | refine blk_drew ?_ | refine blk_alloc ?_ _)); exact BK269.out) hb); have n1_ := Aside0.mk (below_step (by repeat (first | (with_reducible first | exact HB.out | apply below_alloc | apply pw_below_drewN | apply below_drew1 | refine below_set ?_ GE269.out) | exact HB.out)) hb); clear BK269; clear HB; have BK269 := n0_; have HB := n1_; clear n0_ n1_; (try clear hb); (try clear hb2); (try clear hk); (try clear hi); have hcz41_0 : w40.cell? ⟨gb269, 0, none⟩ = some (.int .u8 a0_0) := (blk_cell BK269.out 0).trans rfl; have hcz41_1 : w40.cell? ⟨gb269, 1, none⟩ = some (.slice A0_1 l0_1.length c0_1) := (blk_cell BK269.out 1).trans rfl; have hcz41_2 : w40.cell? ⟨gb269, 2, none⟩ = some (.slice A0_2 l0_2.length c0_2) := (blk_cell BK269.out 2).trans rfl; have hfz41_0 := blk_frozen BK269.out 0; have hfz41_1 := blk_frozen BK269.out 1; have hfz41_2 := blk_frozen BK269.out 2) | ((with_reducible refine gate_callee (f := 53) rfl ?_); refine goesL_ (some 20) rfl rfl Tryz.func53 (by kernel_rfl) rfl #[.int .u8 a0_0] rfl (by (try simp only [List.map_toArray, List.map_cons, List.map_nil]); first | done | rfl | (simp only [List.length_drop, List.length_take]; rfl)) ?_; (with_reducible refine (nodes_compound.calls a0_0 false _ A5.out).mono ?_); rintro e w' ⟨rfl, ⟨nd, rfl⟩⟩; refine ⟨_, rfl, ?_⟩) | (go_at_call 54; (with_reducible refine (nodes_right.calls k a0_0 _ _ l0_1 t271 _ ?side1 ?side2 A34.out).mono ?_); (case side1 => repeat (first | exact (Kd.C_below HR0_1.out (by repeat (first | (with_reducible first | exact HB.out | apply below_alloc | apply pw_below_drewN | apply below_drew1 | refine below_set ?_ GE269.out) | exact HB.out))) | (with_reducible refine Kd.C_alloc ?_ _) | (with_reducible refine Kd.C_drewN ?_ _) | (with_reducible refine Kd.C_drew ?_))); (case side2 => exact HC0_1.out); rintro e w42 ⟨rfl, hb⟩; have n0_ := Aside0.mk (blk_below (g := gb269) (o := .cells #[.int .u8 a0_0, .slice A0_1 l0_1.length c0_1, .slice A0_2 l0_2.length c0_2] 44 (0, 0)) (by (with_reducible repeat (first | refine blk_drewN ?_ _ | refine blk_drew ?_ | refine blk_alloc ?_ _)); exact BK269.out) hb); have n1_ := Aside0.mk (below_step (by repeat (first | (with_reducible first | exact HB.out | apply below_alloc | apply pw_below_drewN | apply below_drew1 | refine below_set ?_ GE269.out) | exact HB.out)) hb); clear BK269; clear HB; have BK269 := n0_; have HB := n1_; clear n0_ n1_; (try clear hb); (try clear hb2); (try clear hk); (try clear hi)) | ((with_reducible refine gate_callee (f := 51) rfl ?_); refine goesL_ (some 33) rfl rfl Tryz.func51 (by kernel_rfl) rfl #[.bool t271, .int .i64 43, .int .i64 0] rfl (by (try simp only [List.map_toArray, List.map_cons, List.map_nil]); first | done | rfl | (simp only [List.length_drop, List.length_take]; rfl)) ?_; (with_reducible refine (nodes_must.calls t271 43 0  _ A35.out).mono ?_); rintro e w' ⟨rfl, ⟨nd, rfl⟩⟩; refine ⟨_, rfl, ?_⟩; have hcz43_0 : w42.cell? ⟨gb269, 0, none⟩ = some (.int .u8 a0_0) := (blk_cell BK269.out 0).trans rfl; have hcz43_1 : w42.cell? ⟨gb269, 1, none⟩ = some (.slice A0_1 l0_1.length c0_1) := (blk_cell BK269.out 1).trans rfl; have hcz43_2 : w42.cell? ⟨gb269, 2, none⟩ = some (.slice A0_2 l0_2.length c0_2) := (blk_cell BK269.out 2).trans rfl; have hfz43_0 := blk_frozen BK269.out 0; have hfz43_1 := blk_frozen BK269.out 1; have hfz43_2 := blk_frozen BK269.out 2) | ((with_reducible refine gate_callee (f := 55) rfl ?_); refine goesL_ (some 39) rfl rfl Tryz.func55 (by kernel_rfl) rfl #[.int .u8 a0_0, .slice A0_1 l0_1.length c0_1] rfl (by (try simp only [List.map_toArray, List.map_cons, List.map_nil]); first | done | rfl | (simp only [List.length_drop, List.length_take]; rfl)) ?_; (with_reducible refine (tlv_Put.calls a0_0 _ _ l0_1 t272 t273 _ ?side1 ?side2 A36.out).mono ?_); (case side1 => repeat (first | exact (Kd.C_below HR0_1.out (by repeat (first | (with_reducible first | exact HB.out | apply below_alloc | apply pw_below_drewN | apply below_drew1 | refine below_set ?_ GE269.out) | exact HB.out))) | (with_reducible refine Kd.C_alloc ?_ _) | (with_reducible refine Kd.C_drewN ?_ _) | (with_reducible refine Kd.C_drew ?_))); (case side2 => exact HC0_1.out); rintro e w44 ⟨v274, rfl, ho0, hb⟩; refine ⟨_, rfl, ?_⟩; have n0_ := Aside0.mk (Kd.R_lower ho0 (below_size (by repeat (first | (with_reducible first | exact HB.out | apply below_alloc | apply pw_below_drewN | apply below_drew1 | refine below_set ?_ GE269.out) | exact HB.out)))); have n1_ := Aside0.mk (blk_below (g := gb269) (o := .cells #[.int .u8 a0_0, .slice A0_1 l0_1.length c0_1, .slice A0_2 l0_2.length c0_2] 44 (0, 0)) (by (with_reducible repeat (first | refine blk_drewN ?_ _ | refine blk_drew ?_ | refine blk_alloc ?_ _)); exact BK269.out) hb); have n2_ := Aside0.mk (below_step (by repeat (first | (with_reducible first | exact HB.out | apply below_alloc | apply pw_below_drewN | apply below_drew1 | refine below_set ?_ GE269.out) | exact HB.out)) hb); clear BK269; clear HB; have HO275 := n0_; have BK269 := n1_; have HB := n2_; clear n0_ n1_ n2_; (try clear hb); (try clear hb2); (try clear hk); (try clear hi); (try clear ho0)) | ((with_reducible refine gate_callee (f := 51) rfl ?_); refine goesL_ (some 45) rfl rfl Tryz.func51 (by kernel_rfl) rfl #[.bool (t273 == 0), .int .i64 t273, .int .i64 0] rfl (by (try simp only [List.map_toArray, List.map_cons, List.map_nil]); first | done | rfl | (simp only [List.length_drop, List.length_take]; rfl)) ?_; (with_reducible refine (nodes_must.calls (t273 == 0) t273 0  _ A37.out).mono ?_); rintro e w' ⟨rfl, ⟨nd, rfl⟩⟩; refine ⟨_, rfl, ?_⟩))
   go_ret
   exact ⟨_, by first | rfl | (simp [errW_none, errW_some] <;> rfl) | (simp [*, errW_none, errW_some] <;> rfl), by (with_reducible repeat (first | apply Kd.R_alloc | apply Kd.R_drewN | apply Kd.R_drew)); exact HO275.out, by repeat (first | (with_reducible first | exact HB.out | apply below_alloc | apply pw_below_drewN | apply below_drew1 | refine below_set ?_ GE269.out) | exact HB.out)⟩
  ·rw [if_neg c33] at H
   have c33b0 : ((l0_2.length : Int) == 0) = false := beq_eq_false_iff_ne.mpr c33
   have c33b1 : ((l0_2.length : Int) != 0) = true := bne_iff_ne.mpr c33
   have c33b2 : ¬ (l0_2 = []) := fun h_ => c33 (by rw [h_]; rfl)
   replace H := Option.bind_eq_some_iff.mp H
   obtain ⟨_, A450, H⟩ := H
   replace H : ((tlv_Put.f a0_0 l0_1).bind fun bt276 => ((nodes_must.f (bt276.2 == 0) bt276.2 0).bind fun _ => (some bt276.1))) = some r := H
   have A45 := Aside0.mk A450
   clear A450
   replace H := Option.bind_eq_some_iff.mp H
   obtain ⟨⟨t276, t277⟩, A460, H⟩ := H
   replace H : ((nodes_must.f (t277 == 0) t277 0).bind fun _ => (some t276)) = some r := H
   have A46 := Aside0.mk A460
   clear A460
   replace H := Option.bind_eq_some_iff.mp H
   obtain ⟨_, A470, H⟩ := H
   replace H : (some t276) = some r := H
   have A47 := Aside0.mk A470
   clear A470
   obtain rfl := Option.some.inj H
   go_enter Tryz.func23, Tryz.ntmps23
   go_wp2_with (first | ((with_reducible refine gate_dst (N := 2) rfl ?_); refine box_event ?hg (N := 2) ?hd (cs := #[.int .u8 a0_0, .slice A0_1 l0_1.length c0_1, .slice A0_2 l0_2.length c0_2]) (t := 44) ?hr ?_; (case hd => rfl); (case hg => rfl); (case hr => first | (go_simp; done) | (go_simp; rfl)); intro gb269 hg w48 hbox hb; have n0_ := Aside0.mk (below_step (by repeat (first | (with_reducible first | exact HB.out | apply below_alloc | apply pw_below_drewN | apply below_drew1) | exact HB.out)) hb); have n1_ := Aside0.mk (hbox); have n2_ := Aside0.mk ((by rw [hg]; exact (below_size (by repeat (first | (with_reducible first | exact HB.out | apply below_alloc | apply pw_below_drewN | apply below_drew1) | exact HB.out))) : w.heap.size ≤ gb269)); have n3_ := Aside0.mk ((by rw [hg]; exact (below_size (by repeat (first | (with_reducible first | exact HB.out | apply below_alloc | apply pw_below_drewN | apply below_drew1) | exact HB.out))) : w.heap.size ≤ gb269)); clear HB; have HB := n0_; have BK269 := n1_; have GW269 := n2_; have GE269 := n3_; clear n0_ n1_ n2_ n3_; clear hb hbox hg) | ((with_reducible refine gate_callee (f := 51) rfl ?_); refine goesL_ (some 14) rfl rfl Tryz.func51 (by kernel_rfl) rfl #[.bool (decide (a1 < 32)), .int .i64 41, .int .i64 0] rfl (by (try simp only [List.map_toArray, List.map_cons, List.map_nil]); first | done | rfl | (simp only [List.length_drop, List.length_take]; rfl)) ?_; (with_reducible refine (nodes_must.calls (decide (a1 < 32)) 41 0  _ A3.out).mono ?_); rintro e w' ⟨rfl, ⟨nd, rfl⟩⟩; refine ⟨_, rfl, ?_⟩; have hcz49_0 : w48.cell? ⟨gb269, 0, none⟩ = some (.int .u8 a0_0) := (blk_cell BK269.out 0).trans rfl; have hcz49_1 : w48.cell? ⟨gb269, 1, none⟩ = some (.slice A0_1 l0_1.length c0_1) := (blk_cell BK269.out 1).trans rfl; have hcz49_2 : w48.cell? ⟨gb269, 2, none⟩ = some (.slice A0_2 l0_2.length c0_2) := (blk_cell BK269.out 2).trans rfl; have hfz49_0 := blk_frozen BK269.out 0; have hfz49_1 := blk_frozen BK269.out 1; have hfz49_2 := blk_frozen BK269.out 2) | ((with_reducible refine gate_callee (f := 52) rfl ?_); refine goesL_ (some 17) rfl rfl Tryz.func52 (by kernel_rfl) rfl #[.int .u8 a0_0, .int .i64 0] rfl (by (try simp only [List.map_toArray, List.map_cons, List.map_nil]); first | done | rfl | (simp only [List.length_drop, List.length_take]; rfl)) ?_; (with_reducible refine (nodes_tagged.calls k a0_0 0  _ A4.out).mono ?_); rintro e w50 ⟨rfl, hb⟩; refine ⟨_, rfl, ?_⟩; have n0_ := Aside0.mk (blk_below (g := gb269) (o := .cells #[.int .u8 a0_0, .slice A0_1 l0_1.length c0_1, .slice A0_2 l0_2.length c0_2] 44 (0, 0)) (by (with_reducible repeat (first | refine blk_drewN ?_ _ | refine blk_drew ?_ | refine blk_alloc ?_ _)); exact BK269.out) hb); have n1_ := Aside0.mk (below_step (by repeat (first | (with_reducible first | exact HB.out | apply below_alloc | apply pw_below_drewN | apply below_drew1 | refine below_set ?_ GE269.out) | exact HB.out)) hb); clear BK269; clear HB; have BK269 := n0_; have HB := n1_; clear n0_ n1_; (try clear hb); (try clear hb2); (try clear hk); (try clear hi); have hcz51_0 : w50.cell? ⟨gb269, 0, none⟩ = some (.int .u8 a0_0) := (blk_cell BK269.out 0).trans rfl; have hcz51_1 : w50.cell? ⟨gb269, 1, none⟩ = some (.slice A0_1 l0_1.length c0_1) := (blk_cell BK269.out 1).trans rfl; have hcz51_2 : w50.cell? ⟨gb269, 2, none⟩ = some (.slice A0_2 l0_2.length c0_2) := (blk_cell BK269.out 2).trans rfl; have hfz51_0 := blk_frozen BK269.out 0; have hfz51_1 := blk_frozen BK269.out 1; have hfz51_2 := blk_frozen BK269.out 2) | ((with_reducible refine gate_callee (f := 53) rfl ?_); refine goesL_ (some 20) rfl rfl Tryz.func53 (by kernel_rfl) rfl #[.int .u8 a0_0] rfl (by (try simp only [List.map_toArray, List.map_cons, List.map_nil]); first | done | rfl | (simp only [List.length_drop, List.length_take]; rfl)) ?_; (with_reducible refine (nodes_compound.calls a0_0 false _ A5.out).mono ?_); rintro e w' ⟨rfl, ⟨nd, rfl⟩⟩; refine ⟨_, rfl, ?_⟩) | ((with_reducible refine gate_callee (f := 51) rfl ?_); refine goesL_ (some 33) rfl rfl Tryz.func51 (by kernel_rfl) rfl #[.bool false, .int .i64 43, .int .i64 0] rfl (by (try simp only [List.map_toArray, List.map_cons, List.map_nil]); first | done | rfl | (simp only [List.length_drop, List.length_take]; rfl)) ?_; (with_reducible refine (nodes_must.calls false 43 0  _ A45.out).mono ?_); rintro e w' ⟨rfl, ⟨nd, rfl⟩⟩; refine ⟨_, rfl, ?_⟩) | ((with_reducible refine gate_callee (f := 55) rfl ?_); refine goesL_ (some 39) rfl rfl Tryz.func55 (by kernel_rfl) rfl #[.int .u8 a0_0, .slice A0_1 l0_1.length c0_1] rfl (by (try simp only [List.map_toArray, List.map_cons, List.map_nil]); first | done | rfl | (simp only [List.length_drop, List.length_take]; rfl)) ?_; (with_reducible refine (tlv_Put.calls a0_0 _ _ l0_1 t276 t277 _ ?side1 ?side2 A46.out).mono ?_); (case side1 => repeat (first | exact (Kd.C_below HR0_1.out (by repeat (first | (with_reducible first | exact HB.out | apply below_alloc | apply pw_below_drewN | apply below_drew1 | refine below_set ?_ GE269.out) | exact HB.out))) | (with_reducible refine Kd.C_alloc ?_ _) | (with_reducible refine Kd.C_drewN ?_ _) | (with_reducible refine Kd.C_drew ?_))); (case side2 => exact HC0_1.out); rintro e w52 ⟨v278, rfl, ho0, hb⟩; refine ⟨_, rfl, ?_⟩; have n0_ := Aside0.mk (Kd.R_lower ho0 (below_size (by repeat (first | (with_reducible first | exact HB.out | apply below_alloc | apply pw_below_drewN | apply below_drew1 | refine below_set ?_ GE269.out) | exact HB.out)))); have n1_ := Aside0.mk (blk_below (g := gb269) (o := .cells #[.int .u8 a0_0, .slice A0_1 l0_1.length c0_1, .slice A0_2 l0_2.length c0_2] 44 (0, 0)) (by (with_reducible repeat (first | refine blk_drewN ?_ _ | refine blk_drew ?_ | refine blk_alloc ?_ _)); exact BK269.out) hb); have n2_ := Aside0.mk (below_step (by repeat (first | (with_reducible first | exact HB.out | apply below_alloc | apply pw_below_drewN | apply below_drew1 | refine below_set ?_ GE269.out) | exact HB.out)) hb); clear BK269; clear HB; have HO279 := n0_; have BK269 := n1_; have HB := n2_; clear n0_ n1_ n2_; (try clear hb); (try clear hb2); (try clear hk); (try clear hi); (try clear ho0)) | ((with_reducible refine gate_callee (f := 51) rfl ?_); refine goesL_ (some 45) rfl rfl Tryz.func51 (by kernel_rfl) rfl #[.bool (t277 == 0), .int .i64 t277, .int .i64 0] rfl (by (try simp only [List.map_toArray, List.map_cons, List.map_nil]); first | done | rfl | (simp only [List.length_drop, List.length_take]; rfl)) ?_; (with_reducible refine (nodes_must.calls (t277 == 0) t277 0  _ A47.out).mono ?_); rintro e w' ⟨rfl, ⟨nd, rfl⟩⟩; refine ⟨_, rfl, ?_⟩))
   go_ret
   exact ⟨_, by first | rfl | (simp [errW_none, errW_some] <;> rfl) | (simp [*, errW_none, errW_some] <;> rfl), by (with_reducible repeat (first | apply Kd.R_alloc | apply Kd.R_drewN | apply Kd.R_drew)); exact HO279.out, by repeat (first | (with_reducible first | exact HB.out | apply below_alloc | apply pw_below_drewN | apply below_drew1 | refine below_set ?_ GE269.out) | exact HB.out)⟩
end Go.Proofs.YtncanijjnhkgbaaGreatDoor.PMsgsPut
namespace Go.Proofs.YtncanijjnhkgbaaGreatDoor.PMsgsPut
open Go.RowKit Go.Proofs.YtncanijjnhkgbaaGreatDoorW.PrintWords Go.Proofs.YtncanijjnhkgbaaGreatDoorW.PrintLast Go.Proofs.YtncanijjnhkgbaaGreatDoorW.PrintMore
def Ev {α : Type} (g : Nat → Option α) (r : α) : Prop := ∃ k0, ∀ k, k0 ≤ k → g k = some r
theorem Ev.pure {α : Type} {a : Option α} {r : α} (h : a = some r) : Ev (fun _ => a) r := ⟨0, fun _ _ => h⟩
theorem Ev.bind {α β : Type} {g : Nat → Option α} {x : α} {h : α → Nat → Option β} {r : β} (hg : Ev g x) (hh : Ev (h x) r) : Ev (fun k => (g k).bind fun y => h y k) r := by
 obtain ⟨k1, h1⟩ := hg
 obtain ⟨k2, h2⟩ := hh
 refine ⟨max k1 k2, fun k hk => ?_⟩
 show (g k).bind _ = _
 rw [h1 k (by omega)]
 exact h2 k (by omega)
theorem Ev.bindP {α β : Type} {a : Option α} {x : α} {h : α → Nat → Option β} {r : β} (hg : a = some x) (hh : Ev (h x) r) : Ev (fun k => a.bind fun y => h y k) r := Ev.bind (Ev.pure hg) hh
theorem Ev.step {α : Type} {g : Nat → Option α} {r : α} (h : Ev (fun k => g (k + 1)) r) : Ev g r := by
 obtain ⟨k1, h1⟩ := h
 refine ⟨k1 + 1, fun k hk => ?_⟩
 obtain ⟨k, rfl⟩ : ∃ q, k = q + 1 := ⟨k - 1, by omega⟩
 exact h1 k (by omega)
theorem Ev.pos {α : Type} {c : Prop} [Decidable c] {g h : Nat → Option α} {r : α} (hc : c) (hg : Ev g r) : Ev (fun k => if c then g k else h k) r := by simp only [if_pos hc]; exact hg
theorem Ev.neg {α : Type} {c : Prop} [Decidable c] {g h : Nat → Option α} {r : α} (hc : ¬ c) (hg : Ev h r) : Ev (fun k => if c then g k else h k) r := by simp only [if_neg hc]; exact hg
theorem Ev.of {α : Type} {g : Nat → Option α} {r : α} (h : Ev g r) : ∃ k, g k = some r := ⟨h.choose, h.choose_spec _ (Nat.le_refl _)⟩
theorem Ev.one {α : Type} {g : Nat → Option α} {r s : α} (h : Ev g r) (hm : ∀ k, LeO (g k) (g (k + 1))) {k : Nat} (hs : g k = some s) : s = r := by
 obtain ⟨k0, h0⟩ := h
 have h1 := more_rounds hm k k0 s hs
 rw [h0 (k + k0) (by omega)] at h1
 exact (Option.some.inj h1).symm
theorem w64 {x : Int} (h1 : -9223372036854775808 ≤ x) (h2 : x ≤ 9223372036854775807) : wrap64 x = x := by unfold wrap64; omega
def tlvB (t : Int) (b : List Int) : List Int :=
 (if b.length > 255 then [t, 130, (b.length : Int) / 256 % 256, (b.length : Int) % 256] else if b.length > 127 then [t, 129, (b.length : Int) % 256] else [t, (b.length : Int) % 256]) ++ b
mutual
def enc : S44 → List Int
 | ⟨t, b, ks⟩ => tlvB t (b ++ encL ks)
def encL : List (S44) → List Int
 | [] => []
 | n :: r => enc n ++ encL r
end
def IsB (l : List Int) : Prop := ∀ x ∈ l, 0 ≤ x ∧ x < 256
theorem tlv_some (t : Int) (b : List Int) (ht : (Go.bits .and .u8 t 31) ≠ 31) (hb : b.length ≤ 65535) : tlv_Put.f t b = some (tlvB t b, 0) := by
 unfold tlv_Put.f tlvB
 simp only [Option.bind_some]
 rw [if_neg ht, if_neg (by omega)]
 by_cases h1 : b.length > 255
 ·rw [if_pos (by omega), if_pos (by simp; omega), if_pos h1]
 ·rw [if_neg (by omega), if_neg h1]
  by_cases h2 : b.length > 127
  ·rw [if_pos (by omega), if_pos (by simp; omega), if_pos h2]
  ·rw [if_neg (by omega), if_pos (by simp; omega), if_neg h2]
def compTag (t : Int) : Prop := t ∈ [48, 97, 98, 99, 106, 107, 108, 109, 110, 111, 113, 114, 121, 123, 126]
def leafOk (t : Int) (b : List Int) : Prop :=
 (t = 1 ∧ ∃ x : Bool, b = [if x = true then 255 else 0]) ∨ (t = 2 ∧ ∃ n, -9223372036854775808 ≤ n ∧ n ≤ 9223372036854775807 ∧ intE n = b) ∨ (t = 4 ∧ IsB b) ∨
 ((t = 23 ∨ t = 24) ∧ ∃ s, -631152000 ≤ s ∧ s ≤ 253402300799 ∧ timeT s = t ∧ timeE s = b) ∨ (t = 27 ∧ genB b = true ∧ IsB b)
inductive Fine : Nat → S44 → Prop
 | leaf (h : Nat) (t : Int) (b : List Int) (hb : b.length ≤ 65535) (ho : leafOk t b) : Fine h ⟨t, b, []⟩
 | comp (h : Nat) (t : Int) (ks : List (S44)) (ht : compTag t) (hl : (encL ks).length ≤ 65535) (hn : ks.length ≤ 100) (hk : ∀ n ∈ ks, Fine h n) : Fine (h + 1) ⟨t, [], ks⟩
theorem comp_tag {t : Int} (h : compTag t) : (Go.bits .and .u8 t 31) ≠ 31 ∧ (Go.bits .and .u8 t 32) ≠ 0 ∧ (t = 48 ∨ 64 ≤ t) ∧ t ≠ 49 ∧ 0 ≤ t ∧ t < 256 := by
 unfold compTag at h
 simp only [List.mem_cons, List.not_mem_nil, or_false] at h
 rcases h with rfl | rfl | rfl | rfl | rfl | rfl | rfl | rfl | rfl | rfl | rfl | rfl | rfl | rfl | rfl <;> exact ⟨by decide, by decide, by decide, by decide, by decide, by decide⟩
theorem leaf_tag {t : Int} {b : List Int} (h : leafOk t b) : t = 1 ∨ t = 2 ∨ t = 4 ∨ t = 23 ∨ t = 24 ∨ t = 27 := by
 rcases h with ⟨h, _⟩ | ⟨h, _⟩ | ⟨h, _⟩ | ⟨h | h, _⟩ | ⟨h, _⟩ <;> simp [h]
theorem index_some (l : List Int) (x : Int) (hl : l.length ≤ 1000) : ∀ (d i : Nat), i + d = l.length → ∀ j : Nat, i ≤ j → j < l.length → (∀ q : Nat, i ≤ q → q < j → x ≠ rd l (q : Int)) → x = rd l (j : Int) → Ev (fun k => slices_Index_byte_byte.l0 k l x (l.length : Int) (i : Int)) (j : Int)
 | 0, i, hd, j, h1, h2, _, _ => by omega
 | d + 1, i, hd, j, h1, h2, h3, h4 => by
  refine Ev.step ?_
  simp only [slices_Index_byte_byte.l0]
  refine Ev.pos (by omega) (Ev.pos (by omega) (Ev.pos (by omega) ?_))
  by_cases hij : i = j
  ·subst hij
   exact Ev.pos h4 (Ev.pure rfl)
  ·refine Ev.neg (h3 i (Nat.le_refl _) (by omega)) ?_
   have ih := index_some l x hl d (i + 1) (by omega) j (by omega) h2 (fun q a b => h3 q (by omega) b) h4
   have e : wrap64 ((i : Int) + 1) = ((i + 1 : Nat) : Int) := by rw [w64 (by omega) (by omega)]; omega
   rw [e]
   exact ih
theorem contains_some (t : Int) (j : Nat) (hj : j < 14) (h : t = rd [1, 2, 3, 4, 5, 6, 12, 19, 22, 23, 24, 27, 48, 49] (j : Int)) (h2 : ∀ q : Nat, q < j → t ≠ rd [1, 2, 3, 4, 5, 6, 12, 19, 22, 23, 24, 27, 48, 49] (q : Int)) :
  Ev (fun k => slices_Contains_byte_byte.f k [1, 2, 3, 4, 5, 6, 12, 19, 22, 23, 24, 27, 48, 49] t) true := by
 unfold slices_Contains_byte_byte.f slices_Index_byte_byte.f
 have h0 := index_some [1, 2, 3, 4, 5, 6, 12, 19, 22, 23, 24, 27, 48, 49] t (by decide) 14 0 rfl j (by omega) hj (fun q _ hq => h2 q hq) h
 refine Ev.bind h0 (Ev.pure ?_)
 rw [decide_eq_true (by omega)]
theorem tagged_some (t : Int) (h1 : (Go.bits .and .u8 t 31) ≠ 31) (h2 : 64 ≤ t ∨ t = 48 ∨ t = 1 ∨ t = 2 ∨ t = 4 ∨ t = 23 ∨ t = 24 ∨ t = 27) : Ev (fun k => nodes_tagged.f k t 0) () := by
 unfold nodes_tagged.f
 refine Ev.bindP (by unfold nodes_must.f; rw [if_pos (bne_iff_ne.2 h1)]) ?_
 by_cases h : t ≥ 64
 ·exact Ev.pos h (Ev.bindP (x := ()) rfl (Ev.pure rfl))
 ·refine Ev.neg h ?_
  have hc : Ev (fun k => slices_Contains_byte_byte.f k [1, 2, 3, 4, 5, 6, 12, 19, 22, 23, 24, 27, 48, 49] t) true := by
   rcases h2 with h2 | rfl | rfl | rfl | rfl | rfl | rfl | rfl
   ·exact absurd h2 h
   ·exact contains_some 48 12 (by decide) rfl (by decide)
   ·exact contains_some 1 0 (by decide) rfl (by decide)
   ·exact contains_some 2 1 (by decide) rfl (by decide)
   ·exact contains_some 4 3 (by decide) rfl (by decide)
   ·exact contains_some 23 9 (by decide) rfl (by decide)
   ·exact contains_some 24 10 (by decide) rfl (by decide)
   ·exact contains_some 27 11 (by decide) rfl (by decide)
  exact Ev.bind hc (Ev.bindP (x := ()) rfl (Ev.pure rfl))
theorem right_some (t : Int) (b : List Int) (h : leafOk t b) : Ev (fun k => nodes_right.f k t b) true := by
 unfold nodes_right.f
 rcases h with ⟨rfl, x, rfl⟩ | ⟨rfl, n, h1, h2, h3⟩ | ⟨rfl, _⟩ | ⟨ht, s, h1, h2, h3, h4⟩ | ⟨rfl, hg, _⟩
 ·refine Ev.pos rfl (Ev.bindP (x := (x, 0)) ?_ (Ev.pure rfl))
  cases x <;> rfl
 ·refine Ev.neg (by decide) (Ev.pos rfl (Ev.bindP (x := ((⟨n, h1, h2, h3⟩ : ∃ n, -9223372036854775808 ≤ n ∧ n ≤ 9223372036854775807 ∧ intE n = b).choose, 0)) ?_ (Ev.pure rfl)))
  unfold ints_Int.f intO
  rw [dif_pos]
 ·refine Ev.neg (by decide) (Ev.neg (by decide) (Ev.neg (by decide) (Ev.neg (by decide) ?_)))
  refine Ev.step ?_
  simp only [nodes_right.j0]
  refine Ev.neg (by decide) (Ev.neg (by decide) (Ev.neg (by decide) (Ev.neg (by decide) (Ev.neg (by decide) ?_))))
  refine Ev.step ?_
  simp only [nodes_right.j1]
  exact Ev.neg (by decide) (Ev.neg (by decide) (Ev.pure rfl))
 ·have hT : Ev (fun k => nodes_right.j0 k t b 0 t true) true := by
   refine Ev.step ?_
   simp only [nodes_right.j0]
   refine Ev.pos trivial (Ev.bindP (x := ((⟨s, h1, h2, h3, h4⟩ : ∃ s, -631152000 ≤ s ∧ s ≤ 253402300799 ∧ timeT s = t ∧ timeE s = b).choose, 0)) ?_ (Ev.pure rfl))
   unfold texts_Time.f timeO
   rw [dif_pos]
  rcases ht with rfl | rfl
  ·exact Ev.neg (by decide) (Ev.neg (by decide) (Ev.neg (by decide) (Ev.pos rfl hT)))
  ·exact Ev.neg (by decide) (Ev.neg (by decide) (Ev.neg (by decide) (Ev.neg (by decide) hT)))
 ·refine Ev.neg (by decide) (Ev.neg (by decide) (Ev.neg (by decide) (Ev.neg (by decide) ?_)))
  refine Ev.step ?_
  simp only [nodes_right.j0]
  refine Ev.neg (by decide) (Ev.neg (by decide) (Ev.neg (by decide) (Ev.neg (by decide) (Ev.neg (by decide) ?_))))
  refine Ev.step ?_
  simp only [nodes_right.j1]
  refine Ev.pos (by decide) (Ev.bindP (x := true) ?_ (Ev.pure rfl))
  unfold texts_Right.f
  rw [if_pos rfl, hg]
theorem encL_flat (ks : List (S44)) : encL ks = (ks.map enc).flatten := by
 induction ks with
 | nil => rfl
 | cons n r ih => rw [encL, ih]; rfl
theorem rd_node (l : List (S44)) (i : Nat) (h : i < l.length) : rd_T44 l (i : Int) = l[i] := by
 unfold rd_T44
 rw [Int.toNat_natCast, List.getD_eq_getElem?_getD, List.getElem?_eq_getElem h]
 rfl
theorem printed_some {h : Nat} {n : S44} (hf : Fine h n) : ∀ d : Nat, d + h < 32 → Ev (fun k => nodes_printed.f k n.f0 n.f1 n.f2 (d : Int)) (enc n) := by
 induction hf with
 | leaf h t b hb ho =>
  intro d hd
  have h31 : (Go.bits .and .u8 t 31) ≠ 31 ∧ (Go.bits .and .u8 t 32) = 0 := by rcases leaf_tag ho with rfl | rfl | rfl | rfl | rfl | rfl <;> exact ⟨by decide, by decide⟩
  refine Ev.step ?_
  simp only [nodes_printed.f]
  refine Ev.bindP (x := ()) (by unfold nodes_must.f; rw [decide_eq_true (by omega)]; rfl) ?_
  refine Ev.bind (tagged_some t h31.1 (.inr (.inr (leaf_tag ho)))) ?_
  refine Ev.bindP (x := false) (by unfold nodes_compound.f; rw [h31.2]; rfl) ?_
  refine Ev.neg (by decide) (Ev.pos rfl ?_)
  refine Ev.bind (right_some t b ho) (Ev.bindP (x := ()) rfl (Ev.bindP (tlv_some t b h31.1 hb) (Ev.bindP (x := ()) rfl (Ev.pure ?_))))
  simp [enc, encL]
 | comp h t ks ht hl hn hk ih =>
  intro d hd
  obtain ⟨t1, t2, t3, t4, _, _⟩ := comp_tag ht
  have hloop : ∀ (e i : Nat), i + e = ks.length → Ev (fun k => nodes_printed.l0 k (d : Int) ((ks.take i).map enc) ks (ks.length : Int) (i : Int) t [] ks) (enc ⟨t, [], ks⟩) := by
   intro e
   induction e with
   | zero =>
    intro i hi
    refine Ev.step ?_
    simp only [nodes_printed.l0]
    refine Ev.neg (by omega) ?_
    rw [List.take_of_length_le (by omega)]
    refine Ev.bindP (x := ()) (by unfold nodes_rise.f; rw [if_neg t4]) ?_
    refine Ev.bindP (x := encL ks) (by unfold slices_Concat_byte_byte.f; rw [← encL_flat, if_pos (by omega)]) ?_
    refine Ev.bindP (tlv_some t _ t1 hl) (Ev.bindP (x := ()) rfl (Ev.pure ?_))
    simp [enc]
   | succ e ihe =>
    intro i hi
    refine Ev.step ?_
    simp only [nodes_printed.l0]
    refine Ev.pos (by omega) (Ev.pos (by omega) (Ev.pos (by omega) ?_))
    have e1 : wrap64 ((d : Int) + 1) = ((d + 1 : Nat) : Int) := by rw [w64 (by omega) (by omega)]; omega
    have e2 : wrap64 ((i : Int) + 1) = ((i + 1 : Nat) : Int) := by rw [w64 (by omega) (by omega)]; omega
    rw [rd_node ks i (by omega), e1, e2]
    refine Ev.bind (ih _ (List.getElem_mem (by omega : i < ks.length)) (d + 1) (by omega)) ?_
    refine Ev.pos (by simp; omega) ?_
    have := ihe (i + 1) (by omega)
    rw [List.take_succ_eq_append_getElem (by omega), List.map_append] at this
    exact this
  refine Ev.step ?_
  simp only [nodes_printed.f]
  refine Ev.bindP (x := ()) (by unfold nodes_must.f; rw [decide_eq_true (by omega)]; rfl) ?_
  refine Ev.bind (tagged_some t t1 (t3.elim (fun h => .inr (.inl h)) .inl)) ?_
  refine Ev.bindP (x := true) (by unfold nodes_compound.f; rw [bne_iff_ne.2 t2]) ?_
  refine Ev.pos rfl (Ev.bindP (x := ()) rfl ?_)
  exact hloop ks.length 0 (by omega)
end Go.Proofs.YtncanijjnhkgbaaGreatDoor.PMsgsPut
namespace Go.Proofs.YtncanijjnhkgbaaGreatDoor.PMsgsPut
open Go.RowKit Go.Proofs.YtncanijjnhkgbaaGreatDoorW.PrintWords Go.Proofs.YtncanijjnhkgbaaGreatDoorW.PrintLast Go.Proofs.YtncanijjnhkgbaaGreatDoorW.PrintMore
theorem caught_nil (w : World) : Calls Tryz.prog 22 #[.nilIface] w fun e w' => e = .returned (.agg #[.int .i64 0, .int .i64 0]) ∧ w' = w.alloc (.cells #[.int .i64 0, .int .i64 0] 62) := by
 go_enter Tryz.func22, Tryz.ntmps22
 go_wp2
 exact bodyPost_ret (v := .agg #[.int .i64 0, .int .i64 0]) (by simp [results, Tryz.results22, go_sem]) rfl ⟨rfl, rfl⟩
theorem print_idle (p q : Addr) (w : World) :
  CallsD Tryz.prog 21 #[.pointer (some p), .pointer (some q)] .returning w fun e u' w' => e = .returned (.tuple #[]) ∧ u' = .returning ∧ Below w.heap.size w w' := by
 refine callsD_of_wpS Tryz.func21 rfl fun c₀ cs hu => ?_
 apply wpS_seq
 apply wpS_region
 simp [wpOpsS, go_sem, recoverD, hu, Tryz.ntmps21, Exit.thenS]
 refine (caught_nil _).mono ?_
 rintro e w' ⟨rfl, rfl⟩
 simp [wpOpsS, go_sem, recoverD, hu, Tryz.ntmps21, Exit.thenS]
 apply wpS_seq
 apply wpS_region
 simp [wpOpsS, go_sem, Exit.thenS]
 refine wpS_cond (t := false) (by simp [Act.eval, Array.replicate]) ?_
 simp only [Bool.false_eq_true, if_false]
 refine wpS_of_wp (wp_skip ?_)
 cases c₀
 simp_all [bodyPostS, results, Tryz.results21]
 exact ((Below.refl _ w).alloc (Nat.le_refl _) _).alloc (by simp) _
open Classical in
noncomputable def nodes_Print.f (a0_0 : Int) (l0_1 : List Int) (l0_2 : List (S44)) : Option (List Int × Int) := if h : ∃ r k, nodes_printed.f k a0_0 l0_1 l0_2 0 = some r then some (h.choose, 0) else none
theorem nodes_Print.calls (a0_0 : Int) (A0_1 : Option Addr) (c0_1 : Nat) (l0_1 : List Int) (A0_2 : Option Addr) (c0_2 : Nat) (l0_2 : List (S44)) (r1 : List Int) (r2 : Int) (w : World) (hr0_1 : Kd.C (Kd.int .u8) w A0_1 l0_1.length l0_1) (hc0_1 : l0_1.length ≤ c0_1) (hr0_2 : Kd.C k44 w A0_2 l0_2.length l0_2) (hc0_2 : l0_2.length ≤ c0_2) (h : nodes_Print.f a0_0 l0_1 l0_2 = some (r1, r2)) :
  Calls Tryz.prog 10 #[.agg #[.int .u8 a0_0, .slice A0_1 l0_1.length c0_1, .slice A0_2 l0_2.length c0_2]] w fun e w' => ∃ v0_ : Value, e = .returned (.tuple #[v0_, .int .i64 r2]) ∧ Kd.R (Kd.int .u8) 5 w' w.heap.size (fun _ => True) v0_ r1 ∧ Below w.heap.size w w' := by
 obtain ⟨⟨k, hk⟩, rfl⟩ : (∃ k, nodes_printed.f k a0_0 l0_1 l0_2 0 = some r1) ∧ r2 = 0 := by
  unfold nodes_Print.f at h
  split at h
  ·rename_i hx
   obtain ⟨rfl, rfl⟩ := Prod.mk.inj (Option.some.inj h)
   exact ⟨hx.choose_spec, rfl⟩
  ·cases h
 clear h
 have hP := fun (W : World) (hb : Below w.heap.size w W) => nodes_printed.calls k a0_0 A0_1 c0_1 l0_1 A0_2 c0_2 l0_2 0 r1 W (Kd.C_below hr0_1 hb) hc0_1 (Kd.C_below hr0_2 hb) hc0_2 hk
 have PP := Aside0.mk hP
 clear hP hr0_1 hr0_2 hc0_1 hc0_2 hk
 have hmf : ∀ (fn : Fn) (first cap : Array Value) (w : World), (Instr.makeFunc fn first cap).run Tryz.prog w = .ok (.func fn first cap) w := fun _ _ _ _ => rfl
 go_enter_defers Tryz.func10, Tryz.ntmps10
 go_wp2_with (fail)
 have k1 := blk_alloc (blk_new (w.alloc (.cells #[.int .u8 a0_0, .slice A0_1 l0_1.length c0_1, .slice A0_2 l0_2.length c0_2] 44)) (.cells #[.slice none 0 0] 25)) (.cells #[.int .i64 0] 26)
 rw [World.size_alloc] at k1
 have k2 := blk_new ((w.alloc (.cells #[.int .u8 a0_0, .slice A0_1 l0_1.length c0_1, .slice A0_2 l0_2.length c0_2] 44)).alloc (.cells #[.slice none 0 0] 25)) (.cells #[.int .i64 0] 26)
 rw [World.size_alloc, World.size_alloc] at k2
 have hb0 : Below w.heap.size w (((w.alloc (.cells #[.int .u8 a0_0, .slice A0_1 l0_1.length c0_1, .slice A0_2 l0_2.length c0_2] 44)).alloc (.cells #[.slice none 0 0] 25)).alloc (.cells #[.int .i64 0] 26)) := below_alloc (below_alloc (below_alloc (Below.refl _ _) _) _) _
 generalize (((w.alloc (.cells #[.int .u8 a0_0, .slice A0_1 l0_1.length c0_1, .slice A0_2 l0_2.length c0_2] 44)).alloc (.cells #[.slice none 0 0] 25)).alloc (.cells #[.int .i64 0] 26)) = W at k1 k2 hb0 ⊢
 refine (PP.out W hb0).mono ?_
 rintro e w1 ⟨v, rfl, hR, hb⟩
 obtain ⟨Ar, cr, rfl⟩ := Kd.R_slice hR
 have j1 := blk_below k1 hb
 have j2 := blk_below k2 hb
 have z1 := (blk_cell j1 0).trans rfl
 have z2 := (blk_cell j2 0).trans rfl
 have y1 := blk_frozen j1 0
 have y2 := blk_frozen j2 0
 have hz := blk_lt k2
 have hR2 := Kd.R_far (Kd.R_far (Kd.R_bound hR) (p := ⟨w.heap.size + 1, 0, none⟩) (fun k hk => by have := hk.2.1; show k ≠ w.heap.size + 1; omega) (.slice Ar r1.length cr)) (p := ⟨w.heap.size + 1 + 1, 0, none⟩) (fun k hk => by have := hk.2.1; show k ≠ w.heap.size + 1 + 1; omega) (.int .i64 0)
 have hb2 := below_set (below_set (Below.trans hb0 (hb.mono hb0.size)) (g := w.heap.size + 1) (j := 0) (v := .slice Ar r1.length cr) (Nat.le_succ _)) (g := w.heap.size + 1 + 1) (j := 0) (v := .int .i64 0) (Nat.le_add_right _ 2)
 have m1 := blk_far (blk_put j1 0 (.slice Ar r1.length cr) rfl) (p := ⟨w.heap.size + 1 + 1, 0, none⟩) (by show w.heap.size + 1 ≠ w.heap.size + 1 + 1; omega) (.int .i64 0)
 have m2 := blk_put (blk_far j2 (p := ⟨w.heap.size + 1, 0, none⟩) (by show w.heap.size + 1 + 1 ≠ w.heap.size + 1; omega) (.slice Ar r1.length cr)) 0 (.int .i64 0) rfl
 have PJ := Aside0.mk (And.intro m1 (And.intro m2 (And.intro hR2 (And.intro hb2 (And.intro hb0.size hz)))))
 clear j1 j2 hR hb hb0 k1 k2 PP hR2 hb2 m1 m2 hz
 go_wp2
 obtain ⟨m1, m2, hR2, hb2, hz⟩ := PJ.out
 generalize ((w1.setCell ⟨w.heap.size + 1, 0, none⟩ (.slice Ar r1.length cr)).setCell ⟨w.heap.size + 1 + 1, 0, none⟩ (.int .i64 0)) = W2 at m1 m2 hR2 hb2 ⊢
 clear PJ z1 z2 y1 y2
 refine leaves_cons (f := 21) (args := #[.pointer (some ⟨w.heap.size + 1, 0, none⟩), .pointer (some ⟨w.heap.size + 1 + 1, 0, none⟩)]) (by simp) (by simp [go_sem]) ?_
 refine (print_idle _ _ _).mono ?_
 rintro e u' w'' ⟨rfl, rfl, hB⟩
 have z1 := (blk_cell (blk_below m1 hB) 0).trans rfl
 have z2 := (blk_cell (blk_below m2 hB) 0).trans rfl
 simp [Leaves, settle, results, Tryz.results10, go_sem, z1, z2]
 exact ⟨Kd.R_mono (Kd.R_lower (Kd.R_below hR2 hB) hz.1) (fun _ _ => trivial), hb2.trans (hB.mono hb2.size)⟩
end Go.Proofs.YtncanijjnhkgbaaGreatDoor.PMsgsPut
namespace Go.Proofs.YtncanijjnhkgbaaGreatDoor.PMsgsPut
open Go.RowKit Go.Proofs.YtncanijjnhkgbaaGreatDoorW.PrintWords Go.Proofs.YtncanijjnhkgbaaGreatDoorW.PrintLast Go.Proofs.YtncanijjnhkgbaaGreatDoorW.PrintMore
theorem node_V {w w1 : World} {base : Nat} {v : Value} {l : List Int} (hV : Kd.V (Kd.int .u8) 5 w1 base (fun k => w.heap.size < k) v l) (u0 u1 u2 : Value) :
  Kd.V (Kd.int .u8) 5 (((w1.setCell ⟨w.heap.size, 0, none⟩ u0).setCell ⟨w.heap.size, 1, none⟩ u1).setCell ⟨w.heap.size, 2, none⟩ u2) w.heap.size (fun k => w.heap.size ≤ k) v l :=
 Kd.V_mono (Kd.V_far (Kd.V_far (Kd.V_far hV (fun _ h => Nat.ne_of_gt h) u0) (fun _ h => Nat.ne_of_gt h) u1) (fun _ h => Nat.ne_of_gt h) u2) (fun _ h => Nat.le_of_lt h)
theorem node_B {w w1 : World} {o : Obj} (hb : Below (w.alloc o).heap.size (w.alloc o) w1) (u0 u1 u2 : Value) :
  Below w.heap.size w (((w1.setCell ⟨w.heap.size, 0, none⟩ u0).setCell ⟨w.heap.size, 1, none⟩ u1).setCell ⟨w.heap.size, 2, none⟩ u2) :=
 below_set (below_set (below_set (below_step (below_alloc (Below.refl _ _) o) hb) (Nat.le_refl _)) (Nat.le_refl _)) (Nat.le_refl _)
theorem node_lt {w : World} {o : Obj} {k : Nat} (h : (w.alloc o).heap.size ≤ k) : w.heap.size < k := by
 simp only [World.alloc, Array.size_push] at h
 omega
theorem node_R {w w1 : World} {o : Obj} {v : Value} {l : List Int} {ok : Nat → Prop} (h : Kd.R (Kd.int .u8) 5 w1 (w.alloc o).heap.size ok v l) : Kd.V (Kd.int .u8) 5 w1 w.heap.size (fun k => w.heap.size < k) v l :=
 Kd.V_mono (Kd.R_V (Kd.R_bound h)) (fun _ hk => node_lt hk.2.1)
theorem node_W {w w1 : World} {o : Obj} {v : Value} {l : List Int} {base : Nat} (h : Kd.V (Kd.int .u8) 5 w1 base (fun k => (w.alloc o).heap.size ≤ k) v l) : Kd.V (Kd.int .u8) 5 w1 w.heap.size (fun k => w.heap.size < k) v l :=
 Kd.V_mono h (fun _ hk => node_lt hk)
theorem empty_R (W : World) (base g : Nat) (hg : W.heap.size = g) (hb : base ≤ g) : Kd.R (Kd.int .u8) 5 (W.alloc (.cells #[] 5)) base (fun _ => True) (.slice (some ⟨g, 0, none⟩) 0 0) [] := by
 subst hg
 exact Kd.R_of_own (enc := Value.int .u8) (h1 := fun _ => rfl) (World.ownsRow_made W #[] 0 hb (by decide) rfl) (fun _ _ => trivial)
set_option maxRecDepth 100000 in
theorem clone_calls (A0 : Option Addr) (c0 : Nat) (l0 : List Int) (w : World) (hr0 : Kd.C (Kd.int .u8) w A0 l0.length l0) (hc0 : l0.length ≤ c0) (hl : l0.length ≤ 1048576) :
  Calls Tryz.prog 39 #[.slice A0 l0.length c0] w fun e w' => ∃ v : Value, e = .returned v ∧ Kd.V (Kd.int .u8) 5 w' w.heap.size (fun k => w.heap.size ≤ k) v l0 ∧ Below w.heap.size w w' := by
 cases A0 with
 | none =>
  have h0 : l0 = [] := by
   apply List.eq_nil_of_length_eq_zero
   rcases Nat.eq_zero_or_pos l0.length with h | h
   ·exact h
   ·obtain ⟨ad, he, _⟩ := hr0.2.2 h
    cases he
  subst h0
  have hq : ∀ W : World, (binOp .eql 25 (.slice none 0 c0) (.slice none 0 0)).run Tryz.prog W = .ok (.bool true) W := fun _ => by kernel_rfl
  go_enter Tryz.func39, Tryz.ntmps39
  go_wp2
  go_ret
  exact ⟨_, rfl, Kd.V_nil _ _ _ _ _, Below.refl _ _⟩
 | some ad =>
  have PR := Aside0.mk hr0
  have hq : ∀ W : World, (binOp .eql 25 (.slice (some ad) l0.length c0) (.slice none 0 0)).run Tryz.prog W = .ok (.bool false) W := fun _ => by kernel_rfl
  clear hr0
  go_enter Tryz.func39, Tryz.ntmps39
  go_wp2_with ((with_reducible refine gate_builtin (b := .append) rfl ?_); at_builtin; refine Kd.R_append_row (Value.int .u8) (0 : Int) (w0 := w) w.heap.size rfl _ _ 25 5 (.int .u8 0) 1 rfl Tryz.underlying25 info5 rfl (by decide) (.slice (some ⟨w.heap.size, 0, none⟩) 0 0) [] l0 (some ad) l0.length c0 (fun _ => True) rfl rfl (fun _ _ => trivial) (empty_R _ _ _ rfl (Nat.le_refl _)) (Kd.C_alloc PR.out _) (below_alloc (Below.refl _ _) _) (below_size (below_alloc (Below.refl _ _) _)) ?hlen ?_; (case hlen => (simp only [List.length_nil]; omega)); intro v1 w1 hr hb hg hat; rw [List.nil_append] at hr; clear hg hat; have PV := Aside0.mk (And.intro (Kd.V_mono (Kd.R_V (base' := w.heap.size) (Kd.R_bound hr)) (ok' := fun k => w.heap.size ≤ k) (fun _ hk => hk.2.1)) hb); clear hr hb)
  go_ret
  exact ⟨_, rfl, PV.out.1, PV.out.2⟩
def wire_Node_int64.f (a0 : Int) : Option (Int × List Int × (List (S44)) × Bool) := some (2, intE a0, [], true)
set_option maxHeartbeats 1000000 in
theorem wire_Node_int64.calls (a0 : Int) (r1 : Int) (r2 : List Int) (r3 : List (S44)) (r4 : Bool) (w : World) (h1 : -9223372036854775808 ≤ a0) (h2 : a0 ≤ 9223372036854775807) (h : wire_Node_int64.f a0 = some (r1, r2, r3, r4)) :
  Calls Tryz.prog 17 #[.iface 2 (.int .i64 a0)] w fun e w' => ∃ v1_ v2_ : Value, e = .returned (.tuple #[.agg #[.int .u8 r1, v1_, v2_], .bool r4]) ∧ Kd.V (Kd.int .u8) 5 w' w.heap.size (fun k_ => (w.heap.size ≤ k_)) v1_ r2 ∧ Kd.V k44 44 w' w.heap.size (fun k_ => (w.heap.size ≤ k_)) v2_ r3 ∧ Below w.heap.size w w' := by
 obtain ⟨rfl, rfl, rfl, rfl⟩ : 2 = r1 ∧ intE a0 = r2 ∧ [] = r3 ∧ true = r4 := by simpa [wire_Node_int64.f] using h
 clear h
 have hp := putInt_some a0 h1 h2 21 (by decide)
 have ta0 : ∀ W : World, (Instr.typeAssert (.iface 2 (.int .i64 a0)) 20 44 true).run Tryz.prog W = .ok (.tuple #[.agg #[.int .u8 0, .slice none 0 0, .slice none 0 0], .bool false]) W := fun _ => by kernel_rfl
 have ta1 : ∀ W : World, (Instr.typeAssert (.iface 2 (.int .i64 a0)) 20 2 true).run Tryz.prog W = .ok (.tuple #[.int .i64 a0, .bool true]) W := fun _ => by kernel_rfl
 go_enter Tryz.func17, Tryz.ntmps17
 go_wp2_with (go_at_call 37; refine (ints_PutInt.calls 21 a0 _ _ hp).mono ?_; rintro e w1 ⟨v, rfl, hR, hb⟩; obtain ⟨A1, c1, rfl⟩ := Kd.R_slice hR; have hk := blk_below (blk_new w _) hb; have z0 := (blk_cell hk 0).trans rfl; have z1 := (blk_cell hk 1).trans rfl; have z2 := (blk_cell hk 2).trans rfl; have y0 := blk_frozen hk 0; have y1 := blk_frozen hk 1; have y2 := blk_frozen hk 2; have PK := Aside0.mk hk; clear hk; have PR := Aside0.mk (node_R hR); have PB := Aside0.mk hb; clear hR hb)
 refine bodyPost_ret (results_ct rfl _ _ w.heap.size 44 #[.int .u8 2, .slice A1 (intE a0).length c1, .slice none 0 0] (0, 0) _ rfl (blk_put (blk_put (blk_put PK.out 0 _ rfl) 1 _ rfl) 2 _ rfl) Tryz.underlying44 rfl (by kernel_rfl)) rfl ?_
 exact ⟨_, _, rfl, node_V PR.out _ _ _, Kd.V_nil _ _ _ _ _, node_B PB.out _ _ _⟩
def wire_Node_bool.f (a0 : Bool) : Option (Int × List Int × (List (S44)) × Bool) := some (1, [if a0 = true then 255 else 0], [], true)
set_option maxHeartbeats 1000000 in
theorem wire_Node_bool.calls (a0 : Bool) (r1 : Int) (r2 : List Int) (r3 : List (S44)) (r4 : Bool) (w : World) (h : wire_Node_bool.f a0 = some (r1, r2, r3, r4)) :
  Calls Tryz.prog 17 #[.iface 4 (.bool a0)] w fun e w' => ∃ v1_ v2_ : Value, e = .returned (.tuple #[.agg #[.int .u8 r1, v1_, v2_], .bool r4]) ∧ Kd.V (Kd.int .u8) 5 w' w.heap.size (fun k_ => (w.heap.size ≤ k_)) v1_ r2 ∧ Kd.V k44 44 w' w.heap.size (fun k_ => (w.heap.size ≤ k_)) v2_ r3 ∧ Below w.heap.size w w' := by
 obtain ⟨rfl, rfl, rfl, rfl⟩ : 1 = r1 ∧ [if a0 = true then 255 else 0] = r2 ∧ [] = r3 ∧ true = r4 := by simpa [wire_Node_bool.f] using h
 clear h
 have hp : ints_PutBool.f a0 = some [if a0 = true then 255 else 0] := by cases a0 <;> rfl
 generalize [if a0 = true then (255 : Int) else 0] = l at hp ⊢
 have ta0 : ∀ W : World, (Instr.typeAssert (.iface 4 (.bool a0)) 20 44 true).run Tryz.prog W = .ok (.tuple #[.agg #[.int .u8 0, .slice none 0 0, .slice none 0 0], .bool false]) W := fun _ => by kernel_rfl
 have ta1 : ∀ W : World, (Instr.typeAssert (.iface 4 (.bool a0)) 20 2 true).run Tryz.prog W = .ok (.tuple #[.int .i64 0, .bool false]) W := fun _ => by kernel_rfl
 have ta2 : ∀ W : World, (Instr.typeAssert (.iface 4 (.bool a0)) 20 4 true).run Tryz.prog W = .ok (.tuple #[.bool a0, .bool true]) W := fun _ => by kernel_rfl
 go_enter Tryz.func17, Tryz.ntmps17
 go_wp2_with (go_at_call 38; refine (ints_PutBool.calls a0 _ _ hp).mono ?_; rintro e w1 ⟨v, rfl, hR, hb⟩; obtain ⟨A1, c1, rfl⟩ := Kd.R_slice hR; have hk := blk_below (blk_new w _) hb; have z0 := (blk_cell hk 0).trans rfl; have z1 := (blk_cell hk 1).trans rfl; have z2 := (blk_cell hk 2).trans rfl; have y0 := blk_frozen hk 0; have y1 := blk_frozen hk 1; have y2 := blk_frozen hk 2; have PK := Aside0.mk hk; clear hk; have PR := Aside0.mk (node_R hR); have PB := Aside0.mk hb; clear hR hb)
 refine bodyPost_ret (results_ct rfl _ _ w.heap.size 44 #[.int .u8 1, .slice A1 l.length c1, .slice none 0 0] (0, 0) _ rfl (blk_put (blk_put (blk_put PK.out 0 _ rfl) 1 _ rfl) 2 _ rfl) Tryz.underlying44 rfl (by kernel_rfl)) rfl ?_
 exact ⟨_, _, rfl, node_V PR.out _ _ _, Kd.V_nil _ _ _ _ _, node_B PB.out _ _ _⟩
def wire_Node_uint8.f (l0 : List Int) : Option (Int × List Int × (List (S44)) × Bool) := if l0.length ≤ 1048576 then some (4, l0, [], true) else none
set_option maxHeartbeats 1000000 in
theorem wire_Node_uint8.calls (A0 : Option Addr) (c0 : Nat) (l0 : List Int) (r1 : Int) (r2 : List Int) (r3 : List (S44)) (r4 : Bool) (w : World) (hr0 : Kd.C (Kd.int .u8) w A0 l0.length l0) (hc0 : l0.length ≤ c0) (h : wire_Node_uint8.f l0 = some (r1, r2, r3, r4)) :
  Calls Tryz.prog 17 #[.iface 25 (.slice A0 l0.length c0)] w fun e w' => ∃ v1_ v2_ : Value, e = .returned (.tuple #[.agg #[.int .u8 r1, v1_, v2_], .bool r4]) ∧ Kd.V (Kd.int .u8) 5 w' w.heap.size (fun k_ => (w.heap.size ≤ k_)) v1_ r2 ∧ Kd.V k44 44 w' w.heap.size (fun k_ => (w.heap.size ≤ k_)) v2_ r3 ∧ Below w.heap.size w w' := by
 unfold wire_Node_uint8.f at h
 by_cases hl : ¬ l0.length ≤ 1048576
 ·rw [if_neg hl] at h; cases h
 rw [Classical.not_not] at hl
 rw [if_pos hl] at h
 obtain ⟨rfl, rfl, rfl, rfl⟩ : 4 = r1 ∧ l0 = r2 ∧ [] = r3 ∧ true = r4 := by simpa using h
 clear h
 have hS := fun o => clone_calls A0 c0 l0 (w.alloc o) (Kd.C_alloc hr0 o) hc0 hl
 have PS := Aside0.mk hS
 clear hS hr0 hc0 hl
 have ta0 : ∀ W : World, (Instr.typeAssert (.iface 25 (.slice A0 l0.length c0)) 20 44 true).run Tryz.prog W = .ok (.tuple #[.agg #[.int .u8 0, .slice none 0 0, .slice none 0 0], .bool false]) W := fun _ => by kernel_rfl
 have ta1 : ∀ W : World, (Instr.typeAssert (.iface 25 (.slice A0 l0.length c0)) 20 2 true).run Tryz.prog W = .ok (.tuple #[.int .i64 0, .bool false]) W := fun _ => by kernel_rfl
 have ta2 : ∀ W : World, (Instr.typeAssert (.iface 25 (.slice A0 l0.length c0)) 20 4 true).run Tryz.prog W = .ok (.tuple #[.bool false, .bool false]) W := fun _ => by kernel_rfl
 have ta3 : ∀ W : World, (Instr.typeAssert (.iface 25 (.slice A0 l0.length c0)) 20 25 true).run Tryz.prog W = .ok (.tuple #[.slice A0 l0.length c0, .bool true]) W := fun _ => by kernel_rfl
 go_enter Tryz.func17, Tryz.ntmps17
 go_wp2_with (go_at_call 39; refine (PS.out _).mono ?_; rintro e w1 ⟨v, rfl, hV, hb⟩; obtain ⟨A1, c1, rfl⟩ := Kd.V_slice hV; have hk := blk_below (blk_new w _) hb; have z0 := (blk_cell hk 0).trans rfl; have z1 := (blk_cell hk 1).trans rfl; have z2 := (blk_cell hk 2).trans rfl; have y0 := blk_frozen hk 0; have y1 := blk_frozen hk 1; have y2 := blk_frozen hk 2; have PK := Aside0.mk hk; clear hk; have PR := Aside0.mk (node_W hV); have PB := Aside0.mk hb; clear hV hb)
 refine bodyPost_ret (results_ct rfl _ _ w.heap.size 44 #[.int .u8 4, .slice A1 l0.length c1, .slice none 0 0] (0, 0) _ rfl (blk_put (blk_put (blk_put PK.out 0 _ rfl) 1 _ rfl) 2 _ rfl) Tryz.underlying44 rfl (by kernel_rfl)) rfl ?_
 exact ⟨_, _, rfl, node_V PR.out _ _ _, Kd.V_nil _ _ _ _ _, node_B PB.out _ _ _⟩
def wire_Node_wireMoment.f (a0 : Int) : Option (Int × List Int × (List (S44)) × Bool) := if -631152000 ≤ a0 ∧ a0 ≤ 253402300799 then some (timeT a0, timeE a0, [], true) else some (0, [], [], false)
set_option maxHeartbeats 1000000 in
theorem wire_Node_wireMoment.calls (a0 : Int) (r1 : Int) (r2 : List Int) (r3 : List (S44)) (r4 : Bool) (w : World) (h : wire_Node_wireMoment.f a0 = some (r1, r2, r3, r4)) :
  Calls Tryz.prog 17 #[.iface 54 (.int .i64 a0)] w fun e w' => ∃ v1_ v2_ : Value, e = .returned (.tuple #[.agg #[.int .u8 r1, v1_, v2_], .bool r4]) ∧ Kd.V (Kd.int .u8) 5 w' w.heap.size (fun k_ => (w.heap.size ≤ k_)) v1_ r2 ∧ Kd.V k44 44 w' w.heap.size (fun k_ => (w.heap.size ≤ k_)) v2_ r3 ∧ Below w.heap.size w w' := by
 unfold wire_Node_wireMoment.f at h
 have ta0 : ∀ W : World, (Instr.typeAssert (.iface 54 (.int .i64 a0)) 20 44 true).run Tryz.prog W = .ok (.tuple #[.agg #[.int .u8 0, .slice none 0 0, .slice none 0 0], .bool false]) W := fun _ => by kernel_rfl
 have ta1 : ∀ W : World, (Instr.typeAssert (.iface 54 (.int .i64 a0)) 20 2 true).run Tryz.prog W = .ok (.tuple #[.int .i64 0, .bool false]) W := fun _ => by kernel_rfl
 have ta2 : ∀ W : World, (Instr.typeAssert (.iface 54 (.int .i64 a0)) 20 4 true).run Tryz.prog W = .ok (.tuple #[.bool false, .bool false]) W := fun _ => by kernel_rfl
 have ta3 : ∀ W : World, (Instr.typeAssert (.iface 54 (.int .i64 a0)) 20 25 true).run Tryz.prog W = .ok (.tuple #[.slice none 0 0, .bool false]) W := fun _ => by kernel_rfl
 have ta4 : ∀ W : World, (Instr.typeAssert (.iface 54 (.int .i64 a0)) 20 55 true).run Tryz.prog W = .ok (.tuple #[.int .i64 0, .bool false]) W := fun _ => by kernel_rfl
 have ta5 : ∀ W : World, (Instr.typeAssert (.iface 54 (.int .i64 a0)) 20 54 true).run Tryz.prog W = .ok (.tuple #[.int .i64 a0, .bool true]) W := fun _ => by kernel_rfl
 by_cases hr : -631152000 ≤ a0 ∧ a0 ≤ 253402300799
 ·rw [if_pos hr] at h
  obtain ⟨rfl, rfl, rfl, rfl⟩ : timeT a0 = r1 ∧ timeE a0 = r2 ∧ [] = r3 ∧ true = r4 := by simpa using h
  have PS := Aside0.mk (fun W => putTime_yes a0 hr.1 hr.2 W)
  generalize timeT a0 = t at PS ⊢
  generalize timeE a0 = l at PS ⊢
  clear h hr
  go_enter Tryz.func17, Tryz.ntmps17
  go_wp2_with (go_at_call 41; refine (PS.out _).mono ?_; rintro e w1 ⟨v, rfl, hV, hb⟩; obtain ⟨A1, c1, rfl⟩ := Kd.V_slice hV; have hk := blk_below (blk_new w _) hb; have z0 := (blk_cell hk 0).trans rfl; have z1 := (blk_cell hk 1).trans rfl; have z2 := (blk_cell hk 2).trans rfl; have y0 := blk_frozen hk 0; have y1 := blk_frozen hk 1; have y2 := blk_frozen hk 2; have PK := Aside0.mk hk; clear hk; have PR := Aside0.mk (node_W hV); have PB := Aside0.mk hb; clear hV hb)
  refine bodyPost_ret (results_ct rfl _ _ w.heap.size 44 #[.int .u8 t, .slice A1 l.length c1, .slice none 0 0] (0, 0) _ rfl (blk_put (blk_put (blk_put PK.out 0 _ rfl) 1 _ rfl) 2 _ rfl) Tryz.underlying44 rfl (by kernel_rfl)) rfl ?_
  exact ⟨_, _, rfl, node_V PR.out _ _ _, Kd.V_nil _ _ _ _ _, node_B PB.out _ _ _⟩
 ·rw [if_neg hr] at h
  obtain ⟨rfl, rfl, rfl, rfl⟩ : 0 = r1 ∧ [] = r2 ∧ [] = r3 ∧ false = r4 := by simpa using h
  have PS := Aside0.mk (fun W => putTime_no a0 hr W)
  clear h hr
  go_enter Tryz.func17, Tryz.ntmps17
  go_wp2_with (go_at_call 41; refine (PS.out _).mono ?_; rintro e w1 ⟨rfl, hb⟩; have hk := blk_below (blk_new w _) hb; have z0 := (blk_cell hk 0).trans rfl; have z1 := (blk_cell hk 1).trans rfl; have z2 := (blk_cell hk 2).trans rfl; have y0 := blk_frozen hk 0; have y1 := blk_frozen hk 1; have y2 := blk_frozen hk 2; have PK := Aside0.mk hk; clear hk; have PB := Aside0.mk hb; clear hb)
  refine bodyPost_ret (results_ct rfl _ _ w.heap.size 44 #[.int .u8 0, .slice none 0 0, .slice none 0 0] (0, 0) _ rfl (blk_put (blk_put (blk_put PK.out 0 _ rfl) 1 _ rfl) 2 _ rfl) Tryz.underlying44 rfl (by kernel_rfl)) rfl ?_
  exact ⟨_, _, rfl, node_V (Kd.V_nil _ _ _ w.heap.size _) _ _ _, Kd.V_nil _ _ _ _ _, node_B PB.out _ _ _⟩
theorem neq_some (ad : Addr) (n c : Nat) : ∀ W : World, (binOp .neq 25 (.slice (some ad) n c) (.slice none 0 0)).run Tryz.prog W = .ok (.bool true) W := fun _ => by kernel_rfl
theorem neq_none : ∀ W : World, (binOp .neq 25 (.slice none 0 0) (.slice none 0 0)).run Tryz.prog W = .ok (.bool false) W := fun _ => by kernel_rfl
set_option maxRecDepth 100000 in
theorem vault_no (a0 : Int) (h : ¬ (0 ≤ a0 ∧ a0 < 281474976710656)) (w : World) :
  Calls Tryz.prog 40 #[.int .i64 a0] w fun e w' => e = .returned (.slice none 0 0) ∧ Below w.heap.size w w' := by
 by_cases h1 : a0 < 0
 ·clear h
  go_enter Tryz.func40, Tryz.ntmps40
  go_wp2_with (fail)
  go_ret
  exact ⟨rfl, Below.refl _ _⟩
 ·have h2 : a0 ≥ 281474976710656 := by omega
  clear h
  go_enter Tryz.func40, Tryz.ntmps40
  go_wp2_with (fail)
  go_ret
  exact ⟨rfl, Below.refl _ _⟩
def wire_Node_wireHandle.f (a0 : Int) : Option (Int × List Int × (List (S44)) × Bool) := if 0 ≤ a0 ∧ a0 < 281474976710656 then some (4, hE a0, [], true) else some (4, [], [], false)
set_option maxHeartbeats 1000000 in
theorem wire_Node_wireHandle.calls (a0 : Int) (r1 : Int) (r2 : List Int) (r3 : List (S44)) (r4 : Bool) (w : World) (h : wire_Node_wireHandle.f a0 = some (r1, r2, r3, r4)) :
  Calls Tryz.prog 17 #[.iface 55 (.int .i64 a0)] w fun e w' => ∃ v1_ v2_ : Value, e = .returned (.tuple #[.agg #[.int .u8 r1, v1_, v2_], .bool r4]) ∧ Kd.V (Kd.int .u8) 5 w' w.heap.size (fun k_ => (w.heap.size ≤ k_)) v1_ r2 ∧ Kd.V k44 44 w' w.heap.size (fun k_ => (w.heap.size ≤ k_)) v2_ r3 ∧ Below w.heap.size w w' := by
 unfold wire_Node_wireHandle.f at h
 have ta0 : ∀ W : World, (Instr.typeAssert (.iface 55 (.int .i64 a0)) 20 44 true).run Tryz.prog W = .ok (.tuple #[.agg #[.int .u8 0, .slice none 0 0, .slice none 0 0], .bool false]) W := fun _ => by kernel_rfl
 have ta1 : ∀ W : World, (Instr.typeAssert (.iface 55 (.int .i64 a0)) 20 2 true).run Tryz.prog W = .ok (.tuple #[.int .i64 0, .bool false]) W := fun _ => by kernel_rfl
 have ta2 : ∀ W : World, (Instr.typeAssert (.iface 55 (.int .i64 a0)) 20 4 true).run Tryz.prog W = .ok (.tuple #[.bool false, .bool false]) W := fun _ => by kernel_rfl
 have ta3 : ∀ W : World, (Instr.typeAssert (.iface 55 (.int .i64 a0)) 20 25 true).run Tryz.prog W = .ok (.tuple #[.slice none 0 0, .bool false]) W := fun _ => by kernel_rfl
 have ta4 : ∀ W : World, (Instr.typeAssert (.iface 55 (.int .i64 a0)) 20 55 true).run Tryz.prog W = .ok (.tuple #[.int .i64 a0, .bool true]) W := fun _ => by kernel_rfl
 by_cases hr : 0 ≤ a0 ∧ a0 < 281474976710656
 ·rw [if_pos hr] at h
  obtain ⟨rfl, rfl, rfl, rfl⟩ : 4 = r1 ∧ hE a0 = r2 ∧ [] = r3 ∧ true = r4 := by simpa using h
  have hf : vault_Bytes.f a0 = some (hE a0) := by
   unfold vault_Bytes.f
   rw [if_neg (by omega), if_neg (by omega)]
   rfl
  have PS := Aside0.mk (fun W => vault_Bytes.calls a0 (hE a0) W hf)
  have hlen : (hE a0).length = 8 := rfl
  generalize hE a0 = l at PS hlen ⊢
  have PL := Aside0.mk hlen
  clear h hr hf hlen
  go_enter Tryz.func17, Tryz.ntmps17
  go_wp2_with (go_at_call 40; refine (PS.out _).mono ?_; rintro e w1 ⟨v, rfl, hR, hb⟩; obtain ⟨ad, c1, rfl⟩ := Kd.R_slice1 hR (by rw [PL.out]; decide); have hq := neq_some ad l.length c1; have hk := blk_below (blk_new w _) hb; have z0 := (blk_cell hk 0).trans rfl; have z1 := (blk_cell hk 1).trans rfl; have z2 := (blk_cell hk 2).trans rfl; have y0 := blk_frozen hk 0; have y1 := blk_frozen hk 1; have y2 := blk_frozen hk 2; have PK := Aside0.mk hk; clear hk; have PR := Aside0.mk (node_R hR); have PB := Aside0.mk hb; clear hR hb)
  refine bodyPost_ret (results_ct rfl _ _ w.heap.size 44 #[.int .u8 4, .slice (some ad) l.length c1, .slice none 0 0] (0, 0) _ rfl (blk_put (blk_put (blk_put PK.out 0 _ rfl) 1 _ rfl) 2 _ rfl) Tryz.underlying44 rfl (by kernel_rfl)) rfl ?_
  exact ⟨_, _, rfl, node_V PR.out _ _ _, Kd.V_nil _ _ _ _ _, node_B PB.out _ _ _⟩
 ·rw [if_neg hr] at h
  obtain ⟨rfl, rfl, rfl, rfl⟩ : 4 = r1 ∧ [] = r2 ∧ [] = r3 ∧ false = r4 := by simpa using h
  have PS := Aside0.mk (fun W => vault_no a0 hr W)
  clear h hr
  go_enter Tryz.func17, Tryz.ntmps17
  go_wp2_with (go_at_call 40; refine (PS.out _).mono ?_; rintro e w1 ⟨rfl, hb⟩; have hq := neq_none; have hk := blk_below (blk_new w _) hb; have z0 := (blk_cell hk 0).trans rfl; have z1 := (blk_cell hk 1).trans rfl; have z2 := (blk_cell hk 2).trans rfl; have y0 := blk_frozen hk 0; have y1 := blk_frozen hk 1; have y2 := blk_frozen hk 2; have PK := Aside0.mk hk; clear hk; have PB := Aside0.mk hb; clear hb)
  refine bodyPost_ret (results_ct rfl _ _ w.heap.size 44 #[.int .u8 4, .slice none 0 0, .slice none 0 0] (0, 0) _ rfl (blk_put (blk_put (blk_put PK.out 0 _ rfl) 1 _ rfl) 2 _ rfl) Tryz.underlying44 rfl (by kernel_rfl)) rfl ?_
  exact ⟨_, _, rfl, node_V (Kd.V_nil _ _ _ w.heap.size _) _ _ _, Kd.V_nil _ _ _ _ _, node_B PB.out _ _ _⟩
end Go.Proofs.YtncanijjnhkgbaaGreatDoor.PMsgsPut
namespace Go.Proofs.YtncanijjnhkgbaaGreatDoor.PMsgsPut
open Go.RowKit Go.Proofs.YtncanijjnhkgbaaGreatDoorW.PrintWords Go.Proofs.YtncanijjnhkgbaaGreatDoorW.PrintLast Go.Proofs.YtncanijjnhkgbaaGreatDoorW.PrintMore
theorem bytesWorld_below (w : World) (e : TypeId) (s : ByteArray) : Below w.heap.size w (Lib.bytesWorld w e s) :=
 ⟨rfl, rfl, rfl, by rw [Lib.bytesWorld_size]; omega, fun i hi => Lib.bytesWorld_at_old w e s i hi⟩
theorem bytesOf_at (s : ByteArray) (j : Nat) (hj : j < s.size) : (bytesOf s).getD j 0 = ((s.data.toList.getD j 0).toNat : Int) := by
 have hl : j < s.data.toList.length := by simpa using hj
 simp [bytesOf, List.getD_eq_getElem?_getD, List.getElem?_eq_getElem hl]
theorem bytes_C (w W' : World) (e : TypeId) (s : ByteArray) (hs : s.size ≤ 9223372036854775807) (h : W'.heap[w.heap.size]? = (Lib.bytesWorld w e s).heap[w.heap.size]?) : (Kd.int .u8).C W' (some ⟨w.heap.size, 0, none⟩) (bytesOf s).length (bytesOf s) := by
 refine Kd.C_of_reads (d := (0 : Int)) ⟨rfl, by rw [bytesOf_length]; exact hs, fun _ => ⟨_, rfl, fun j hj => ?_⟩⟩
 rw [bytesOf_length] at hj
 have h1 := Lib.bytesWorld_cell w e s j hj
 rw [bytesOf_at s j hj]
 rw [← h1]
 have ha : (⟨w.heap.size, 0, none⟩ : Addr).add j = ⟨w.heap.size, j, none⟩ := by
  cases j <;> simp [Addr.add]
 rw [ha]
 simp only [World.cell?, h]
theorem bytes_V (w : World) (e : TypeId) (s : ByteArray) (g : Nat) (hg : w.heap.size = g) (hs : s.size ≤ 9223372036854775807) (base : Nat) (ok : Nat → Prop) (hok : ok g) :
  Kd.V (Kd.int .u8) e (Lib.bytesWorld w e s) base ok (.slice (some ⟨g, 0, none⟩) s.size (grownCap w s.size 0 e)) (bytesOf s) := by
 subst hg
 have h : Kd.V (Kd.int .u8) e (Lib.bytesWorld w e s) base ok (.slice (some ⟨w.heap.size, 0, none⟩) (bytesOf s).length (grownCap w s.size 0 e)) (bytesOf s) :=
  Kd.V_mk (by rw [bytesOf_length]; exact grownCap_ge w s.size 0 e) (fun W' hW => bytes_C w W' e s hs (hW _ hok (by rw [Lib.bytesWorld_size]; omega)))
 rw [bytesOf_length] at h
 exact h
theorem conv_bytes (s : ByteArray) : ∀ W : World, (convert 9 25 (.string s)).run Tryz.prog W = .ok (.slice (some ⟨W.heap.size, 0, none⟩) s.size (grownCap W s.size 0 5)) (Lib.bytesWorld W 5 s) :=
 fun W => Lib.run_convert_string_bytes W 9 25 5 s Tryz.underlying9 Tryz.underlying25 Tryz.underlying5
end Go.Proofs.YtncanijjnhkgbaaGreatDoor.PMsgsPut
namespace Go.Proofs.YtncanijjnhkgbaaGreatDoor.PMsgsPut
open Go.RowKit Go.Proofs.YtncanijjnhkgbaaGreatDoorW.PrintWords Go.Proofs.YtncanijjnhkgbaaGreatDoorW.PrintLast Go.Proofs.YtncanijjnhkgbaaGreatDoorW.PrintMore
theorem conv_general (s : ByteArray) : ∀ W : World, (convert 83 25 (.string s)).run Tryz.prog W = .ok (.slice (some ⟨W.heap.size, 0, none⟩) s.size (grownCap W s.size 0 5)) (Lib.bytesWorld W 5 s) :=
 fun W => Lib.run_convert_string_bytes W 83 25 5 s Tryz.underlying83 Tryz.underlying25 Tryz.underlying5
theorem strOf_bytesOf (s : ByteArray) : strOfNums (bytesOf s) = s := by
 unfold strOfNums bytesOf
 rw [List.map_map]
 have : ((fun n : Int => UInt8.ofNat n.toNat) ∘ fun b : UInt8 => (b.toNat : Int)) = id := by
  funext b
  simp
 rw [this, List.map_id]
theorem right_text (s : ByteArray) (hs : s.size ≤ 1048576) (W : World) :
  Calls Tryz.prog 42 #[.int .u8 27, .slice (some ⟨W.heap.size, 0, none⟩) s.size (grownCap W s.size 0 5)] (Lib.bytesWorld W 5 s) fun e w' => e = .returned (.bool (genS s)) ∧ Below (Lib.bytesWorld W 5 s).heap.size (Lib.bytesWorld W 5 s) w' := by
 have hC := bytes_C W (Lib.bytesWorld W 5 s) 5 s (by omega) rfl
 have h := texts_Right.calls 27 _ (grownCap W s.size 0 5) (bytesOf s) (genB (bytesOf s)) _ hC (by rw [bytesOf_length]; exact grownCap_ge _ _ _ _) rfl
 have hg : genB (bytesOf s) = genS s := by
  unfold genB
  congr 1
  exact strOf_bytesOf s
 rw [bytesOf_length, hg] at h
 exact h
theorem node_general (s : ByteArray) (hs : s.size ≤ 1048576) (w : World) :
  Calls Tryz.prog 17 #[.iface 83 (.string s)] w fun e w' => ∃ A c, e = .returned (.tuple #[.agg #[.int .u8 27, .slice A s.size c, .slice none 0 0], .bool (genS s)]) ∧ Kd.V (Kd.int .u8) 5 w' w.heap.size (fun k => w.heap.size ≤ k) (.slice A s.size c) (bytesOf s) ∧ Below w.heap.size w w' := by
 have ta0 : ∀ W : World, (Instr.typeAssert (.iface 83 (.string s)) 20 44 true).run Tryz.prog W = .ok (.tuple #[.agg #[.int .u8 0, .slice none 0 0, .slice none 0 0], .bool false]) W := fun _ => by kernel_rfl
 have ta1 : ∀ W : World, (Instr.typeAssert (.iface 83 (.string s)) 20 2 true).run Tryz.prog W = .ok (.tuple #[.int .i64 0, .bool false]) W := fun _ => by kernel_rfl
 have ta2 : ∀ W : World, (Instr.typeAssert (.iface 83 (.string s)) 20 4 true).run Tryz.prog W = .ok (.tuple #[.bool false, .bool false]) W := fun _ => by kernel_rfl
 have ta3 : ∀ W : World, (Instr.typeAssert (.iface 83 (.string s)) 20 25 true).run Tryz.prog W = .ok (.tuple #[.slice none 0 0, .bool false]) W := fun _ => by kernel_rfl
 have ta4 : ∀ W : World, (Instr.typeAssert (.iface 83 (.string s)) 20 55 true).run Tryz.prog W = .ok (.tuple #[.int .i64 0, .bool false]) W := fun _ => by kernel_rfl
 have ta5 : ∀ W : World, (Instr.typeAssert (.iface 83 (.string s)) 20 54 true).run Tryz.prog W = .ok (.tuple #[.int .i64 0, .bool false]) W := fun _ => by kernel_rfl
 have ta6 : ∀ W : World, (Instr.typeAssert (.iface 83 (.string s)) 20 83 true).run Tryz.prog W = .ok (.tuple #[.string s, .bool true]) W := fun _ => by kernel_rfl
 have hcv := conv_general s
 have hR := right_text s hs
 have PS := Aside0.mk hs
 clear hs
 go_enter Tryz.func17, Tryz.ntmps17
 go_wp2_with (go_at_call 42; refine (hR _).mono ?_; rintro e w1 ⟨rfl, hb⟩; have hk := blk_below (blk_below (blk_below (blk_new w _) (bytesWorld_below _ _ _)) (bytesWorld_below _ _ _)) hb; have z0 := (blk_cell hk 0).trans rfl; have z1 := (blk_cell hk 1).trans rfl; have z2 := (blk_cell hk 2).trans rfl; have y0 := blk_frozen hk 0; have y1 := blk_frozen hk 1; have y2 := blk_frozen hk 2; have PK := Aside0.mk hk; clear hk; have PB := Aside0.mk (below_step (below_step (bytesWorld_below _ _ _) (bytesWorld_below _ _ _)) hb); have PV := Aside0.mk (Kd.V_below (Kd.V_below (bytes_V (w.alloc (.cells #[.int .u8 0, .slice none 0 0, .slice none 0 0] 44)) 5 s (w.heap.size + 1) (by simp only [World.alloc, Array.size_push]) (by have := PS.out; omega) w.heap.size (fun k => w.heap.size < k) (Nat.lt_succ_self _)) (bytesWorld_below _ _ _)) hb); clear hb)
 refine bodyPost_ret (results_ct rfl _ _ w.heap.size 44 #[.int .u8 27, .slice (some ⟨w.heap.size + 1, 0, none⟩) s.size (grownCap (w.alloc (.cells #[.int .u8 0, .slice none 0 0, .slice none 0 0] 44)) s.size 0 5), .slice none 0 0] (0, 0) _ rfl (blk_put (blk_put (blk_put PK.out 0 _ rfl) 1 _ rfl) 2 _ rfl) Tryz.underlying44 rfl (by kernel_rfl)) rfl ?_
 exact ⟨_, _, rfl, node_V PV.out _ _ _, node_B PB.out _ _ _⟩
def lenB (s : ByteArray) : Bool := decide (0 < s.size) && decide (s.size ≤ 64)
theorem word_calls (s : ByteArray) (w : World) : Calls Tryz.prog 47 #[.string s] w fun e w' => e = .returned (.bool (lenB s)) ∧ w' = w := by
 unfold lenB
 by_cases h1 : 0 < s.size
 ·by_cases h2 : s.size ≤ 64
  ·have h3 : (s.size : Int) ≤ 64 := by omega
   rw [decide_eq_true h1, decide_eq_true h2]
   go_enter Tryz.func47, Tryz.ntmps47
   go_wp2
   go_ret
   exact ⟨by first | rfl | simp [*], rfl⟩
  ·have h3 : 64 < (s.size : Int) := by omega
   rw [decide_eq_true h1, decide_eq_false h2]
   go_enter Tryz.func47, Tryz.ntmps47
   go_wp2
   go_ret
   exact ⟨by first | rfl | simp [*], rfl⟩
 ·rw [decide_eq_false h1]
  go_enter Tryz.func47, Tryz.ntmps47
  go_wp2
  go_ret
  exact ⟨by first | rfl | simp [*], rfl⟩
set_option maxHeartbeats 1000000 in
theorem of_calls (s : ByteArray) (hs : s.size ≤ 1048576) (w : World) :
  Calls Tryz.prog 46 #[.string s] w fun e w' => ∃ A c, e = .returned (.tuple #[.agg #[.int .u8 27, .slice A s.size c, .slice none 0 0], .bool (genS s && lenB s)]) ∧ Kd.V (Kd.int .u8) 5 w' w.heap.size (fun k => w.heap.size ≤ k) (.slice A s.size c) (bytesOf s) ∧ Below w.heap.size w w' := by
 have PN := Aside0.mk (fun W => node_general s hs W)
 have PW := Aside0.mk (fun W => word_calls s W)
 clear hs
 generalize genS s = G at PN ⊢
 generalize lenB s = L at PW ⊢
 cases G
 ·go_enter Tryz.func46, Tryz.ntmps46
  go_wp2_with (go_at_call 17; refine (PN.out _).mono ?_; rintro e w1 ⟨A, c, rfl, hV, hb⟩; have hk := blk_below (blk_new w _) hb; have PK := Aside0.mk hk; clear hk; have PV := Aside0.mk hV; have PB := Aside0.mk hb; clear hb hV)
  obtain ⟨o, ho⟩ : ∃ o, Obj.cells #[.int .u8 27, .slice A s.size c, .slice none 0 0] 44 = o := ⟨_, rfl⟩
  have hlt : w.heap.size < w1.heap.size := node_lt (below_size PB.out)
  have hk := blk_alloc PK.out o
  have z0 := (blk_cell hk 0).trans rfl
  have z1 := (blk_cell hk 1).trans rfl
  have z2 := (blk_cell hk 2).trans rfl
  have y0 := blk_frozen hk 0
  have y1 := blk_frozen hk 1
  have y2 := blk_frozen hk 2
  have hn := blk_new w1 o
  rw [← ho] at hn
  have x0 := (blk_cell hn 0).trans rfl
  have x1 := (blk_cell hn 1).trans rfl
  have x2 := (blk_cell hn 2).trans rfl
  have PK2 := Aside0.mk hk
  have PV2 := Aside0.mk (Kd.V_alloc PV.out o)
  have PB2 := Aside0.mk (below_alloc PB.out o)
  rw [ho] at x0 x1 x2 ⊢
  generalize w1.alloc o = W at z0 z1 z2 y0 y1 y2 x0 x1 x2 PK2 PV2 PB2 ⊢
  have hne : w.heap.size ≠ w1.heap.size := Nat.ne_of_lt hlt
  have hne2 := hne.symm
  clear hk hn ho
  go_region
  all_goals (
   go_wp2
   refine bodyPost_ret (results_ct rfl _ _ w.heap.size 44 #[.int .u8 27, .slice A s.size c, .slice none 0 0] (0, 0) _ rfl (blk_drew (blk_put (blk_put (blk_put PK2.out 0 _ rfl) 1 _ rfl) 2 _ rfl)) Tryz.underlying44 rfl (by kernel_rfl)) rfl ?_
   exact ⟨_, _, by first | rfl | simp [*], by first | exact Kd.V_drew (node_V (node_W PV2.out) _ _ _) | exact node_V (node_W PV2.out) _ _ _, by first | exact below_drew1 (node_B PB2.out _ _ _) | exact node_B PB2.out _ _ _⟩)
 ·go_enter Tryz.func46, Tryz.ntmps46
  go_wp2_with (go_at_call 17; refine (PN.out _).mono ?_; rintro e w1 ⟨A, c, rfl, hV, hb⟩; have hk := blk_below (blk_new w _) hb; have PK := Aside0.mk hk; clear hk; have PV := Aside0.mk hV; have PB := Aside0.mk hb; clear hb hV)
  obtain ⟨o, ho⟩ : ∃ o, Obj.cells #[.int .u8 27, .slice A s.size c, .slice none 0 0] 44 = o := ⟨_, rfl⟩
  have hlt : w.heap.size < w1.heap.size := node_lt (below_size PB.out)
  have hk := blk_alloc PK.out o
  have z0 := (blk_cell hk 0).trans rfl
  have z1 := (blk_cell hk 1).trans rfl
  have z2 := (blk_cell hk 2).trans rfl
  have y0 := blk_frozen hk 0
  have y1 := blk_frozen hk 1
  have y2 := blk_frozen hk 2
  have hn := blk_new w1 o
  rw [← ho] at hn
  have x0 := (blk_cell hn 0).trans rfl
  have x1 := (blk_cell hn 1).trans rfl
  have x2 := (blk_cell hn 2).trans rfl
  have PK2 := Aside0.mk hk
  have PV2 := Aside0.mk (Kd.V_alloc PV.out o)
  have PB2 := Aside0.mk (below_alloc PB.out o)
  rw [ho] at x0 x1 x2 ⊢
  generalize w1.alloc o = W at z0 z1 z2 y0 y1 y2 x0 x1 x2 PK2 PV2 PB2 ⊢
  have hne : w.heap.size ≠ w1.heap.size := Nat.ne_of_lt hlt
  have hne2 := hne.symm
  clear hk hn ho
  go_region_held3 (fun w' => w'.cell? ⟨w1.heap.size, 0, none⟩ = some (.int .u8 27) ∧ w'.cell? ⟨w1.heap.size, 1, none⟩ = some (.slice A s.size c) ∧ w'.cell? ⟨w1.heap.size, 2, none⟩ = some (.slice none 0 0)) (go_keep) (first | (go_at_call 47; refine (PW.out _).mono ?_; rintro e w' ⟨rfl, rfl⟩))
  all_goals (
   go_wp2
   refine bodyPost_ret (results_ct rfl _ _ w.heap.size 44 #[.int .u8 27, .slice A s.size c, .slice none 0 0] (0, 0) _ rfl (blk_put (blk_put (blk_put (blk_drew PK2.out) 0 _ rfl) 1 _ rfl) 2 _ rfl) Tryz.underlying44 rfl (by kernel_rfl)) rfl ?_
   exact ⟨_, _, by first | rfl | simp [*], by first | exact Kd.V_drew (node_V (node_W PV2.out) _ _ _) | exact node_V (node_W PV2.out) _ _ _, by first | exact below_drew1 (node_B PB2.out _ _ _) | exact node_B PB2.out _ _ _⟩)
end Go.Proofs.YtncanijjnhkgbaaGreatDoor.PMsgsPut
namespace Go.Proofs.YtncanijjnhkgbaaGreatDoor.PMsgsPut
open Go.RowKit Go.Proofs.YtncanijjnhkgbaaGreatDoorW.PrintWords Go.Proofs.YtncanijjnhkgbaaGreatDoorW.PrintLast Go.Proofs.YtncanijjnhkgbaaGreatDoorW.PrintMore
structure SmallP (r : ByteArray) (l : List ByteArray) : Prop where
 len : l.length ≤ 1048576
 size : r.size ≤ 1048576
 all : ∀ s ∈ l, s.size ≤ 1048576
structure Small (v : S36) : Prop where
 lo : -9223372036854775808 ≤ v.f0
 hi : v.f0 ≤ 9223372036854775807
 bytes : v.f1.length ≤ 1048576
 isB : IsB v.f1
 princ : SmallP v.f2.f0 v.f2.f1
 server : SmallP v.f3.f0.f0 v.f3.f0.f1
def stV (c : Int) (v : S36) : Option (Int × List Int × (List (S44)) × Bool) := stateO c v.f0 v.f1 v.f2.f0 v.f2.f1 v.f3.f0.f0 v.f3.f0.f1 v.f3.f1
def partQ (c : Int) (v : S36) : Int × List Int × (List (S44)) × Bool := (stV c v).getD (0, [], [], false)
def partOk (c : Int) (v : S36) : Bool := (partQ c v).2.2.2
def partN (c : Int) (v : S36) : S44 := ⟨(partQ c v).1, (partQ c v).2.1, (partQ c v).2.2.1⟩
theorem Fine.up {h : Nat} {n : S44} (hf : Fine h n) : Fine (h + 1) n := by
 induction hf with
 | leaf h t b hb ho => exact .leaf _ t b hb ho
 | comp h t ks ht hl hn hk ih => exact .comp _ t ks ht hl hn ih
theorem tlvB_max (t : Int) (b : List Int) : (tlvB t b).length ≤ b.length + 4 := by
 unfold tlvB
 rw [List.length_append]
 split
 ·simp; omega
 ·split <;> simp <;> omega
theorem encL_max (ks : List (S44)) (m : Nat) (h : ∀ n ∈ ks, (enc n).length ≤ m) : (encL ks).length ≤ ks.length * m := by
 induction ks with
 | nil => simp [encL]
 | cons n r ih =>
  rw [encL, List.length_append, List.length_cons, Nat.succ_mul]
  have h1 := h n (List.mem_cons_self ..)
  have h2 := ih (fun x hx => h x (List.mem_cons_of_mem _ hx))
  omega
theorem bytesOf_len (s : ByteArray) : (bytesOf s).length = s.size := bytesOf_length s
theorem strB (s : ByteArray) : strOfNums (bytesOf s) = s := strOf_bytesOf s
theorem c48 : compTag 48 := by unfold compTag; decide
theorem c97 : compTag 97 := by unfold compTag; decide
theorem bytesOf_isB (s : ByteArray) : IsB (bytesOf s) := by
 intro x hx
 obtain ⟨b, _, rfl⟩ := List.mem_map.1 hx
 have := b.toNat_lt
 omega
theorem word_fine (s : ByteArray) (h : wordB s = true) : Fine 0 (textN s) ∧ (enc (textN s)).length ≤ 68 := by
 unfold wordB at h
 rw [Bool.and_eq_true, Bool.and_eq_true, decide_eq_true_eq, decide_eq_true_eq] at h
 obtain ⟨⟨h1, h2⟩, h3⟩ := h
 refine ⟨.leaf _ _ _ (by rw [bytesOf_len]; omega) (.inr (.inr (.inr (.inr ⟨rfl, by unfold genB; rw [strB]; exact h3, bytesOf_isB s⟩)))), ?_⟩
 have := tlvB_max 27 (bytesOf s ++ encL [])
 unfold textN
 rw [enc]
 simp only [encL, List.append_nil, bytesOf_len] at this ⊢
 omega
theorem princ_fine (r : ByteArray) (l : List ByteArray) (h : princOk r l = true) : Fine 2 ⟨48, [], princK r l⟩ ∧ (enc ⟨48, [], princK r l⟩).length ≤ 700 := by
 unfold princOk at h
 rw [Bool.and_eq_true, Bool.and_eq_true, Bool.and_eq_true, decide_eq_true_eq, decide_eq_true_eq, List.all_eq_true] at h
 obtain ⟨h1, h2, h3, h4⟩ := h
 have hn : ∀ n ∈ l.map textN, Fine 0 n ∧ (enc n).length ≤ 68 := by
  intro n hn
  obtain ⟨s, hs, rfl⟩ := List.mem_map.1 hn
  exact word_fine s (h2 s hs)
 have hm := encL_max (l.map textN) 68 (fun n h => (hn n h).2)
 rw [List.length_map] at hm
 have hl : (encL (l.map textN)).length ≤ 544 := by
  have : l.length * 68 ≤ 8 * 68 := Nat.mul_le_mul_right _ h4
  omega
 have hL : Fine 1 ⟨48, [], l.map textN⟩ := .comp _ _ _ c48 (by omega) (by rw [List.length_map]; omega) (fun n h => (hn n h).1)
 have hw := word_fine r h1
 have hE : (encL (princK r l)).length ≤ 620 := by
  unfold princK
  rw [encL, encL, encL, enc, List.append_nil, List.length_append, List.nil_append]
  have := tlvB_max 48 (encL (l.map textN))
  omega
 refine ⟨.comp _ _ _ c48 (by omega) (by simp [princK]) ?_, ?_⟩
 ·intro n hn
  simp only [princK, List.mem_cons, List.not_mem_nil, or_false] at hn
  rcases hn with rfl | rfl
  ·exact hw.1.up
  ·exact hL
 ·rw [enc, List.nil_append]
  have := tlvB_max 48 (encL (princK r l))
  omega
theorem hE_isB (n : Int) : IsB (hE n) := by
 intro x hx
 simp only [hE, List.mem_cons, List.not_mem_nil, or_false] at hx
 rcases hx with rfl | rfl | rfl | rfl | rfl | rfl | rfl | rfl <;> omega
theorem leaf_len (t : Int) (b : List Int) : (enc ⟨t, b, []⟩).length ≤ b.length + 4 := by
 rw [enc, encL, List.append_nil]
 exact tlvB_max t b
theorem timeE_len (s : Int) : (timeE s).length ≤ 15 := by
 unfold timeE
 split
 ·rw [List.length_drop]; show 15 - 2 ≤ 15; decide
 ·show 15 ≤ 15; decide
theorem intE_len (n : Int) (h1 : -9223372036854775808 ≤ n) (h2 : n ≤ 9223372036854775807) : (intE n).length ≤ 8 := by
 obtain ⟨m, hm, hI⟩ := intE_spec n h1 h2
 rw [hI.len]
 omega
theorem state_some (c : Int) (v : S36) (hv : Small v) : stV c v = some (partQ c v) := by
 have : ∃ q, stV c v = some q := by
  unfold stV stateO
  by_cases h0 : c = 0
  ·rw [if_pos h0, if_pos ⟨hv.lo, hv.hi⟩]; exact ⟨_, rfl⟩
  rw [if_neg h0]
  by_cases h1 : c = 1
  ·rw [if_pos h1]; exact ⟨_, rfl⟩
  rw [if_neg h1]
  by_cases h2 : c = 2
  ·rw [if_pos h2]; split <;> exact ⟨_, rfl⟩
  rw [if_neg h2]
  by_cases h3 : c = 3
  ·rw [if_pos h3, if_pos hv.bytes]; exact ⟨_, rfl⟩
  rw [if_neg h3]
  by_cases h4 : c = 4
  ·rw [if_pos h4]; split <;> exact ⟨_, rfl⟩
  rw [if_neg h4]
  by_cases h5 : c = 5
  ·rw [if_pos h5]
   unfold princO
   rw [if_pos ⟨hv.princ.len, hv.princ.size, hv.princ.all⟩]
   split <;> exact ⟨_, rfl⟩
  rw [if_neg h5]
  unfold ticketO
  rw [if_pos ⟨hv.server.len, hv.server.size, hv.server.all⟩]
  split <;> exact ⟨_, rfl⟩
 obtain ⟨q, hq⟩ := this
 unfold partQ
 rw [hq]
 rfl
theorem part_fine (c : Int) (v : S36) (hv : Small v) (ho : partOk c v = true) : Fine 4 (partN c v) ∧ (enc (partN c v)).length ≤ 8200 := by
 have hs := state_some c v hv
 unfold partOk at ho
 unfold partN
 generalize partQ c v = q at hs ho
 obtain ⟨t, b, ks, is⟩ := q
 obtain rfl : is = true := ho
 show Fine 4 ⟨t, b, ks⟩ ∧ (enc ⟨t, b, ks⟩).length ≤ 8200
 unfold stV stateO at hs
 by_cases h0 : c = 0
 ·rw [if_pos h0, if_pos ⟨hv.lo, hv.hi⟩] at hs
  simp only [Option.some.injEq, Prod.mk.injEq] at hs
  obtain ⟨rfl, rfl, rfl, _⟩ := hs
  have hl := intE_len v.f0 hv.lo hv.hi
  have := leaf_len 2 (intE v.f0)
  exact ⟨.leaf _ _ _ (by omega) (.inr (.inl ⟨rfl, _, hv.lo, hv.hi, rfl⟩)), by omega⟩
 rw [if_neg h0] at hs
 by_cases h1 : c = 1
 ·rw [if_pos h1] at hs
  simp only [Option.some.injEq, Prod.mk.injEq] at hs
  obtain ⟨rfl, rfl, rfl, _⟩ := hs
  refine ⟨.leaf _ _ _ (by simp) (.inl ⟨rfl, decide (v.f0 = 1), by by_cases h : v.f0 = 1 <;> simp [h]⟩), ?_⟩
  have := leaf_len 1 [if v.f0 = 1 then 255 else 0]
  simp only [List.length_cons, List.length_nil] at this
  omega
 rw [if_neg h1] at hs
 by_cases h2 : c = 2
 ·rw [if_pos h2] at hs
  by_cases hr : -631152000 ≤ v.f0 ∧ v.f0 ≤ 253402300799
  ·rw [if_pos hr] at hs
   simp only [Option.some.injEq, Prod.mk.injEq] at hs
   obtain ⟨rfl, rfl, rfl, _⟩ := hs
   have hl := timeE_len v.f0
   have := leaf_len (timeT v.f0) (timeE v.f0)
   exact ⟨.leaf _ _ _ (by omega) (.inr (.inr (.inr (.inl ⟨by unfold timeT; split <;> simp, _, hr.1, hr.2, rfl, rfl⟩)))), by omega⟩
  ·rw [if_neg hr] at hs
   simp at hs
 rw [if_neg h2] at hs
 by_cases h3 : c = 3
 ·rw [if_pos h3, if_pos hv.bytes] at hs
  simp only [Option.some.injEq, Prod.mk.injEq, Bool.and_eq_true, decide_eq_true_eq] at hs
  obtain ⟨rfl, rfl, rfl, _, hl⟩ := hs
  have := leaf_len 4 v.f1
  exact ⟨.leaf _ _ _ (by omega) (.inr (.inr (.inl ⟨rfl, hv.isB⟩))), by omega⟩
 rw [if_neg h3] at hs
 by_cases h4 : c = 4
 ·rw [if_pos h4] at hs
  by_cases hr : 0 ≤ v.f0 ∧ v.f0 < 281474976710656
  ·rw [if_pos hr] at hs
   simp only [Option.some.injEq, Prod.mk.injEq] at hs
   obtain ⟨rfl, rfl, rfl, _⟩ := hs
   have := leaf_len 4 (hE v.f0)
   have hl : (hE v.f0).length = 8 := rfl
   exact ⟨.leaf _ _ _ (by omega) (.inr (.inr (.inl ⟨rfl, hE_isB _⟩))), by omega⟩
  ·rw [if_neg hr] at hs
   simp at hs
 rw [if_neg h4] at hs
 by_cases h5 : c = 5
 ·rw [if_pos h5] at hs
  unfold princO at hs
  rw [if_pos ⟨hv.princ.len, hv.princ.size, hv.princ.all⟩] at hs
  by_cases hp : princOk v.f2.f0 v.f2.f1 = true
  ·rw [if_pos hp] at hs
   simp only [Option.bind_some, Option.some.injEq, Prod.mk.injEq] at hs
   obtain ⟨rfl, rfl, rfl, _⟩ := hs
   obtain ⟨f1, f2⟩ := princ_fine _ _ hp
   exact ⟨f1.up.up, by omega⟩
  ·rw [if_neg hp] at hs
   simp at hs
 rw [if_neg h5] at hs
 unfold ticketO at hs
 rw [if_pos ⟨hv.server.len, hv.server.size, hv.server.all⟩] at hs
 by_cases hp : princOk v.f3.f0.f0 v.f3.f0.f1 = true ∧ 0 ≤ v.f3.f1 ∧ v.f3.f1 < 281474976710656
 ·rw [if_pos hp] at hs
  simp only [Option.bind_some, Option.some.injEq, Prod.mk.injEq] at hs
  obtain ⟨rfl, rfl, rfl, _⟩ := hs
  obtain ⟨f1, f2⟩ := princ_fine _ _ hp.1
  have hh := leaf_len 4 (hE v.f3.f1)
  have hl : (hE v.f3.f1).length = 8 := rfl
  have e1 : (encL [(⟨48, [], princK v.f3.f0.f0 v.f3.f0.f1⟩ : S44), ⟨4, hE v.f3.f1, []⟩]).length ≤ 712 := by
   rw [encL, encL, encL, List.append_nil, List.length_append]
   omega
  have g1 : Fine 3 ⟨48, [], [(⟨48, [], princK v.f3.f0.f0 v.f3.f0.f1⟩ : S44), ⟨4, hE v.f3.f1, []⟩]⟩ := by
   refine .comp _ _ _ c48 (by omega) (by simp) ?_
   intro n hn
   simp only [List.mem_cons, List.not_mem_nil, or_false] at hn
   rcases hn with rfl | rfl
   ·exact f1
   ·exact .leaf _ _ _ (by omega) (.inr (.inr (.inl ⟨rfl, hE_isB _⟩)))
  have e2 : (encL [(⟨48, [], [(⟨48, [], princK v.f3.f0.f0 v.f3.f0.f1⟩ : S44), ⟨4, hE v.f3.f1, []⟩]⟩ : S44)]).length ≤ 716 := by
   rw [encL, encL, List.append_nil, enc, List.nil_append]
   have := tlvB_max 48 (encL [(⟨48, [], princK v.f3.f0.f0 v.f3.f0.f1⟩ : S44), ⟨4, hE v.f3.f1, []⟩])
   omega
  refine ⟨.comp _ _ _ c97 (by omega) (by simp) ?_, ?_⟩
  ·intro n hn
   simp only [List.mem_cons, List.not_mem_nil, or_false] at hn
   rw [hn]
   exact g1
  ·rw [enc, List.nil_append]
   have := tlvB_max 97 (encL [(⟨48, [], [(⟨48, [], princK v.f3.f0.f0 v.f3.f0.f1⟩ : S44), ⟨4, hE v.f3.f1, []⟩]⟩ : S44)])
   omega
 ·rw [if_neg hp] at hs
  simp at hs
def msgN (t : Int) (cs : List Int) (l : List (S36)) : S44 := ⟨t, [], [⟨48, [], List.zipWith partN cs l⟩]⟩
def allOk (cs : List Int) (l : List (S36)) : Bool := (List.zip cs l).all fun p => partOk p.1 p.2
theorem allOk_at {cs : List Int} {l : List (S36)} (h : allOk cs l = true) (i : Nat) (h1 : i < cs.length) (h2 : i < l.length) : partOk cs[i] l[i] = true := by
 unfold allOk at h
 rw [List.all_eq_true] at h
 exact h (cs[i], l[i]) (by
  rw [List.mem_iff_getElem]
  exact ⟨i, by rw [List.length_zip]; omega, by rw [List.getElem_zip]⟩)
def putR (a0 : Int) (l : List (S36)) : List Int × Int :=
 if (shapeO a0).1 = 0 then ([], 1) else if l.length = (shapeO a0).2.length then (if allOk (shapeO a0).2 l = true then (enc (msgN (shapeO a0).1 (shapeO a0).2 l), 0) else ([], 181)) else ([], 181)
theorem shape_or (a0 : Int) : (compTag (shapeO a0).1 ∧ (shapeO a0).2.length ≤ 6) ∨ (shapeO a0).1 = 0 := by
 by_cases h1 : a0 = 1
 ·subst h1
  exact .inl ⟨by unfold compTag; decide, by decide⟩
 by_cases h2 : a0 = 2
 ·subst h2
  exact .inl ⟨by unfold compTag; decide, by decide⟩
 by_cases h3 : a0 = 3
 ·subst h3
  exact .inl ⟨by unfold compTag; decide, by decide⟩
 by_cases h4 : a0 = 4
 ·subst h4
  exact .inl ⟨by unfold compTag; decide, by decide⟩
 by_cases h5 : a0 = 5
 ·subst h5
  exact .inl ⟨by unfold compTag; decide, by decide⟩
 by_cases h6 : a0 = 6
 ·subst h6
  exact .inl ⟨by unfold compTag; decide, by decide⟩
 by_cases h7 : a0 = 7
 ·subst h7
  exact .inl ⟨by unfold compTag; decide, by decide⟩
 by_cases h8 : a0 = 8
 ·subst h8
  exact .inl ⟨by unfold compTag; decide, by decide⟩
 by_cases h9 : a0 = 9
 ·subst h9
  exact .inl ⟨by unfold compTag; decide, by decide⟩
 by_cases h10 : a0 = 10
 ·subst h10
  exact .inl ⟨by unfold compTag; decide, by decide⟩
 by_cases h11 : a0 = 11
 ·subst h11
  exact .inl ⟨by unfold compTag; decide, by decide⟩
 by_cases h12 : a0 = 12
 ·subst h12
  exact .inl ⟨by unfold compTag; decide, by decide⟩
 by_cases h13 : a0 = 13
 ·subst h13
  exact .inl ⟨by unfold compTag; decide, by decide⟩
 unfold shapeO
 rw [if_neg h1, if_neg h2, if_neg h3, if_neg h4, if_neg h5, if_neg h6, if_neg h7, if_neg h8, if_neg h9, if_neg h10, if_neg h11, if_neg h12, if_neg h13]
 exact .inr rfl
theorem msg_fine (t : Int) (cs : List Int) (l : List (S36)) (ht : compTag t) (hc : cs.length ≤ 6) (hl : l.length = cs.length) (hs : ∀ v ∈ l, Small v) (ho : allOk cs l = true) : Fine 6 (msgN t cs l) := by
 have hz : ∀ n ∈ List.zipWith partN cs l, Fine 4 n ∧ (enc n).length ≤ 8200 := by
  intro n hn
  rw [← List.map_uncurry_zip_eq_zipWith] at hn
  obtain ⟨⟨c, v⟩, hp, rfl⟩ := List.mem_map.1 hn
  unfold allOk at ho
  rw [List.all_eq_true] at ho
  exact part_fine c v (hs v (List.of_mem_zip hp).2) (ho _ hp)
 have hn : (List.zipWith partN cs l).length ≤ 6 := by rw [List.length_zipWith]; omega
 have hm := encL_max _ 8200 (fun n h => (hz n h).2)
 have hm2 : (encL (List.zipWith partN cs l)).length ≤ 49200 := by
  have : (List.zipWith partN cs l).length * 8200 ≤ 6 * 8200 := Nat.mul_le_mul_right _ hn
  omega
 have h1 : Fine 5 ⟨48, [], List.zipWith partN cs l⟩ := .comp _ _ _ c48 (by omega) (by omega) (fun n h => (hz n h).1)
 refine .comp _ _ _ ht ?_ (by simp) ?_
 ·rw [encL, encL, enc, List.append_nil, List.nil_append]
  have := tlvB_max 48 (encL (List.zipWith partN cs l))
  omega
 ·intro n hn
  rw [List.mem_singleton] at hn
  rw [hn]
  exact h1
theorem print_some {h : Nat} {n : S44} (hf : Fine h n) (hh : h < 32) : nodes_Print.f n.f0 n.f1 n.f2 = some (enc n, 0) := by
 have he := printed_some hf 0 (by omega)
 have hx : ∃ r k, nodes_printed.f k n.f0 n.f1 n.f2 0 = some r := by
  obtain ⟨k, hk⟩ := he.of
  exact ⟨_, k, hk⟩
 unfold nodes_Print.f
 rw [dif_pos hx]
 obtain ⟨k, hk⟩ := hx.choose_spec
 rw [Ev.one he (nodes_printed.mono _ _ _ _) hk]
theorem rd_part (l : List (S36)) (i : Nat) (h : i < l.length) : rd_T36 l (i : Int) = l[i] := by
 unfold rd_T36
 rw [Int.toNat_natCast, List.getD_eq_getElem?_getD, List.getElem?_eq_getElem h]
 rfl
theorem rd_int (l : List Int) (i : Nat) (h : i < l.length) : rd l (i : Int) = l[i] := by
 unfold rd
 rw [Int.toNat_natCast, List.getD_eq_getElem?_getD, List.getElem?_eq_getElem h]
 rfl
end Go.Proofs.YtncanijjnhkgbaaGreatDoor.PMsgsPut
namespace Go.Proofs.YtncanijjnhkgbaaGreatDoor.PMsgsPut
open Go.RowKit Go.ChangeShapes Go.WideShapes Go.Deep Go.Proofs.YtncanijjnhkgbaaGreatDoorW.PrintWords Go.Proofs.YtncanijjnhkgbaaGreatDoorW.PrintLast Go.Proofs.YtncanijjnhkgbaaGreatDoorW.PrintMore
theorem bulk_one {H : Type} (d : DataW H) : 1 ≤ Rows.uptoBulk d := by
 cases d with
 | lit l => cases l <;> simp [Rows.uptoBulk]
 | nil => simp [Rows.uptoBulk]
 | ptr d => simp [Rows.uptoBulk]
 | slice elems spare => simp [Rows.uptoBulk]
 | agg parts => simp [Rows.uptoBulk]
 | iface t d => simp [Rows.uptoBulk]
 | map entries => simp [Rows.uptoBulk]
 | held h => simp [Rows.uptoBulk]
theorem bulk_part {H : Type} {d : DataW H} {l : List (DataW H)} (h : d ∈ l) : Rows.uptoBulk d ≤ Rows.uptoBulkAll l := by
 induction l with
 | nil => cases h
 | cons x r ih =>
  simp only [Rows.uptoBulkAll]
  cases List.mem_cons.1 h with
  | inl e => subst e; omega
  | inr e => have := ih e; omega
theorem bulk_len {H : Type} (l : List (DataW H)) : l.length ≤ Rows.uptoBulkAll l := by
 induction l with
 | nil => simp [Rows.uptoBulkAll]
 | cons x r ih => have := bulk_one x; simp only [Rows.uptoBulkAll, List.length_cons]; omega
theorem cellsVal : Tryz.prog.cellsOf 36 = 7 := by kernel_rfl
theorem cellsPrinc : Tryz.prog.cellsOf 32 = 2 := by kernel_rfl
theorem cellsTicket : Tryz.prog.cellsOf 34 = 3 := by kernel_rfl
theorem cellsI64 : Tryz.prog.cellsOf 2 = 1 := by kernel_rfl
theorem cellsInt : Tryz.prog.cellsOf 3 = 1 := by kernel_rfl
theorem cellsStr : Tryz.prog.cellsOf 9 = 1 := by kernel_rfl
theorem cellsStrs : Tryz.prog.cellsOf 30 = 1 := by kernel_rfl
theorem cellsBytes : Tryz.prog.cellsOf 25 = 1 := by kernel_rfl
theorem cellsU8 : Tryz.prog.cellsOf 5 = 1 := by kernel_rfl
section
variable {H : Type} {enc : TypeId × Value → H} {w : World} {sp : Nat → Bool} {fuel : Nat} {y : DataW H × List MemPlace}
theorem scalar_nil {α : Type} {f : α → Value} {h1 : ∀ x, (f x).oneCell' = true} : (Kd.scalar f h1).C w none 0 ([] : List α) := ⟨rfl, by decide, fun h => absurd h (by decide)⟩
theorem bytes_reads {v : Value} (h : DataW.trod enc Tryz.prog w 0 sp true fuel 25 [v] = some y) (hb : Rows.uptoBulk y.1 ≤ 1048576) :
  ∃ A l c, v = .slice A l.length c ∧ l.length ≤ c ∧ (Kd.int .u8).C w A l.length l ∧ IsB l ∧ l.length ≤ 1048576 := by
 rcases open_ints Tryz.underlying25 Tryz.underlying5 cellsU8 h with ⟨h1, h2⟩ | ⟨a, len, cap, zs, h1, _, h2, h3, h4, h5, h6, h7⟩
 ·injection h1 with h1
  exact ⟨none, [], 0, h1, Nat.le_refl _, scalar_nil, (fun x hx => by cases hx), by decide⟩
 ·injection h1 with h1
  have hz : len ≤ zs.length := by rw [h4]; split <;> omega
  have hl : (zs.take len).length = len := by rw [List.length_take]; omega
  rw [h5] at hb
  have hm : len ≤ 1048576 := by
   have hq := bulk_len (H := H) (lits .u8 (zs.take len))
   have hll : (lits (H := H) .u8 (zs.take len)).length = len := by simp only [lits, List.length_map]; exact hl
   simp only [Rows.uptoBulk] at hb
   omega
  unfold maxLen at h3
  refine ⟨some a, zs.take len, cap, by rw [hl]; exact h1, by omega, ?_, ?_, by omega⟩
  ·refine Kd.C_of_reads (d := (0 : Int)) ⟨rfl, by omega, fun _ => ⟨a, rfl, fun j hj => ?_⟩⟩
   rw [hl] at hj
   rw [h6 j (by omega)]
   simp [List.getD_eq_getElem?_getD, List.getElem?_take, hj]
  ·intro x hx
   have hw := h7 x (List.mem_of_mem_take hx)
   simp [Lit.wf, IntKind.min, IntKind.max, IntKind.bits, IntKind.signed] at hw
   omega
theorem string_reads {v : Value} (h : DataW.trod enc Tryz.prog w 0 sp true fuel 9 [v] = some y) (hb : Rows.uptoBulk y.1 ≤ 1048576) : ∃ s : ByteArray, v = .string s ∧ s.size ≤ 1048576 := by
 obtain ⟨s, h1, h2, _⟩ := DataW.trod_string Tryz.underlying9 h
 injection h1 with h1
 rw [h2] at hb
 simp only [Rows.uptoBulk] at hb
 have : s.data.toList.length = s.size := Array.length_toList
 exact ⟨s, h1, by omega⟩
theorem strs_reads {v : Value} (h : DataW.trod enc Tryz.prog w 0 sp true fuel 30 [v] = some y) (hb : Rows.uptoBulk y.1 ≤ 1048576) :
  ∃ A l c, v = .slice A l.length c ∧ l.length ≤ c ∧ Kd.string.C w A l.length l ∧ (∀ s ∈ l, s.size ≤ 1048576) ∧ l.length ≤ 1048576 := by
 rcases open_strs Tryz.underlying30 Tryz.underlying9 cellsStr h with ⟨h1, h2⟩ | ⟨a, len, cap, m, Sx, h1, _, h2, h3, h4, h5, h6⟩
 ·injection h1 with h1
  exact ⟨none, [], 0, h1, Nat.le_refl _, scalar_nil, (fun x hx => by cases hx), by decide⟩
 ·injection h1 with h1
  have hm : len ≤ m := by rw [h4]; split <;> omega
  rw [h5] at hb
  simp only [Rows.uptoBulk] at hb
  have hl : ((List.range len).map Sx).length = len := by simp
  have hq := bulk_len (H := H) ((List.range len).map fun i => DataW.lit (.string (Sx i).data.toList))
  rw [List.length_map, List.length_range] at hq
  unfold maxLen at h3
  refine ⟨some a, (List.range len).map Sx, cap, by rw [hl]; exact h1, by omega, ?_, ?_, by omega⟩
  ·refine Kd.C_of_reads (d := ByteArray.empty) ⟨rfl, by omega, fun _ => ⟨a, rfl, fun j hj => ?_⟩⟩
   rw [hl] at hj
   rw [(h6 j (by omega)).1]
   simp [List.getD_eq_getElem?_getD, hj]
  ·intro s hs
   obtain ⟨i, hi, rfl⟩ := List.mem_map.1 hs
   have hp := bulk_part (H := H) (d := DataW.lit (.string (Sx i).data.toList)) (l := (List.range len).map fun i => DataW.lit (.string (Sx i).data.toList)) (List.mem_map.2 ⟨i, hi, rfl⟩)
   simp only [Rows.uptoBulk] at hp
   have : (Sx i).data.toList.length = (Sx i).size := Array.length_toList
   omega
theorem i64_reads {v : Value} (h : DataW.trod enc Tryz.prog w 0 sp true fuel 2 [v] = some y) : ∃ n, v = .int .i64 n ∧ -9223372036854775808 ≤ n ∧ n ≤ 9223372036854775807 := by
 obtain ⟨n, h1, _, hw⟩ := DataW.trod_int Tryz.underlying2 h
 injection h1 with h1
 simp [Lit.wf, IntKind.min, IntKind.max, IntKind.bits, IntKind.signed] at hw
 exact ⟨n, h1, by omega, by omega⟩
theorem int_reads {v : Value} (h : DataW.trod enc Tryz.prog w 0 sp true fuel 3 [v] = some y) : ∃ n, v = .int .i64 n := by
 obtain ⟨n, h1, _, hw⟩ := DataW.trod_int Tryz.underlying3 h
 injection h1 with h1
 exact ⟨n, h1⟩
theorem princ_reads {v0 v1 : Value} (h : DataW.trod enc Tryz.prog w 0 sp true fuel 32 [v0, v1] = some y) (hb : Rows.uptoBulk y.1 ≤ 1048576) :
  ∃ s A l c, v0 = .string s ∧ v1 = .slice A l.length c ∧ l.length ≤ c ∧ Kd.string.C w A l.length l ∧ SmallP s l := by
 obtain ⟨xs, n, _, hx, _, hxl, hf⟩ := DataW.trod_struct Tryz.underlying32 h
 rw [hx] at hb
 match xs, hxl with
 | [y0, y1], _ =>
  have g0 := hf 0 _ rfl
  have g1 := hf 1 _ rfl
  simp [cellsStr, cellsStrs] at g0 g1
  simp only [List.map_cons, List.map_nil, Rows.uptoBulk, Rows.uptoBulkAll] at hb
  obtain ⟨s, hs, h1⟩ := string_reads g0 (by omega)
  obtain ⟨A, l, c, hv, h2, h3, h4, h5⟩ := strs_reads g1 (by omega)
  exact ⟨s, A, l, c, hs, hv, h2, h3, h5, h1, h4⟩
set_option maxRecDepth 100000 in
theorem val_reads {cs : List Value} (h : DataW.trod enc Tryz.prog w 0 sp true fuel 36 cs = some y) (hb : Rows.uptoBulk y.1 ≤ 1048576) : ∃ x : S36, k36.K w x cs ∧ Small x := by
 obtain ⟨xs, n, _, hx, hlen, hxl, hf⟩ := DataW.trod_struct Tryz.underlying36 h
 rw [cellsVal] at hlen
 rw [hx] at hb
 match xs, hxl, cs, hlen with
 | [y0, y1, y2, y3], _, [v0, v1, v2, v3, v4, v5, v6], _ =>
  have g0 := hf 0 _ rfl
  have g1 := hf 1 _ rfl
  have g2 := hf 2 _ rfl
  have g3 := hf 3 _ rfl
  simp [cellsI64, cellsBytes, cellsPrinc, cellsTicket] at g0 g1 g2 g3
  simp only [List.map_cons, List.map_nil, Rows.uptoBulk, Rows.uptoBulkAll] at hb
  obtain ⟨i, rfl, i1, i2⟩ := i64_reads g0
  obtain ⟨A1, l1, c1, rfl, a1, a2, a3, a4⟩ := bytes_reads g1 (by omega)
  obtain ⟨s, A3, l3, c3, rfl, rfl, b1, b2, b3⟩ := princ_reads g2 (by omega)
  obtain ⟨xs', n', _, hx', _, hxl', hf'⟩ := DataW.trod_struct Tryz.underlying34 g3
  match xs', hxl' with
  | [z0, z1], _ =>
   have k0 := hf' 0 _ rfl
   have k1 := hf' 1 _ rfl
   simp [cellsPrinc, cellsInt] at k0 k1
   have hb3 : Rows.uptoBulk z0.1 ≤ Rows.uptoBulk y3.1 := by
    rw [hx']
    simp only [List.map_cons, List.map_nil, Rows.uptoBulk, Rows.uptoBulkAll]
    omega
   obtain ⟨s5, A5, l5, c5, rfl, rfl, d1, d2, d3⟩ := princ_reads k0 (by omega)
   obtain ⟨e, rfl⟩ := int_reads k1
   exact ⟨⟨i, l1, ⟨s, l3⟩, ⟨⟨s5, l5⟩, e⟩⟩, k36_mk w ⟨i, l1, ⟨s, l3⟩, ⟨⟨s5, l5⟩, e⟩⟩ a1 a2 b1 b2 d1 d2, i1, i2, a4, a3, b3, d3⟩
theorem vals_reads {v : Value} {d : DataW H} {p : List MemPlace} (h : DataW.Trod enc Tryz.prog w 0 sp true 23 v d p) (hb : Rows.uptoBulk d ≤ 1048576) (hv : v.cells.toList = [v]) :
  ∃ A l c, v = .slice A l.length c ∧ l.length ≤ c ∧ k36.C w A l.length l ∧ (∀ x ∈ l, Small x) ∧ l.length ≤ 1048576 := by
 obtain ⟨fuel, h⟩ := h
 rw [hv] at h
 rcases open_slice Tryz.underlying23 h with ⟨h1, h2⟩ | ⟨a, len, cap, m, n, D, Pl, h1, _, h2, h3, h4, h5, h6⟩
 ·injection h1 with h1
  exact ⟨none, [], 0, h1, Nat.le_refl _, ⟨rfl, by decide, fun h => absurd h (by decide)⟩, (fun x hx => by cases hx), by decide⟩
 ·injection h1 with h1
  have hm : len ≤ m := by rw [h4]; split <;> omega
  have h5 := congrArg Prod.fst h5
  simp only at h5
  rw [h5] at hb
  simp only [Rows.uptoBulk] at hb
  have hq := bulk_len (H := H) ((List.range len).map D)
  rw [List.length_map, List.length_range] at hq
  unfold maxLen at h3
  have each : ∀ i, i < len → ∃ x : S36, (∃ cs, cs.length = 7 ∧ k36.K w x cs ∧ ∀ j u, cs[j]? = some u → w.cell? (a.add (i * 7 + j)) = some u) ∧ Small x := by
   intro i hi
   obtain ⟨cs, e1, e2⟩ := h6 i (by omega)
   rw [cellsVal] at e1
   obtain ⟨_, hlen, hcell⟩ := World.cells?_some e1
   have hp := bulk_part (H := H) (d := D i) (l := (List.range len).map D) (List.mem_map.2 ⟨i, List.mem_range.2 hi, rfl⟩)
   obtain ⟨x, hx, hs⟩ := val_reads e2 (by show Rows.uptoBulk (D i) ≤ _; omega)
   refine ⟨x, ⟨cs, hlen, hx, fun j u hu => ?_⟩, hs⟩
   have hj : j < 7 := by rw [← hlen]; exact (List.getElem?_eq_some_iff.1 hu).1
   have := hcell j hj
   rw [Go.Deep.add_add] at this
   rw [this, hu]
  obtain ⟨f, hf⟩ : ∃ f : Nat → S36, ∀ i, i < len → (∃ cs, cs.length = 7 ∧ k36.K w (f i) cs ∧ ∀ j u, cs[j]? = some u → w.cell? (a.add (i * 7 + j)) = some u) ∧ Small (f i) := by
   classical
   refine ⟨fun i => if hi : i < len then (each i hi).choose else z36, fun i hi => ?_⟩
   simp only [dif_pos hi]
   exact (each i hi).choose_spec
  have hl : ((List.range len).map f).length = len := by simp
  refine ⟨some a, (List.range len).map f, cap, by rw [hl]; exact h1, by omega, ⟨rfl, by omega, fun _ => ⟨a, rfl, fun j p hp => ?_⟩⟩, ?_, by omega⟩
  ·obtain ⟨hj, hp⟩ := List.getElem?_eq_some_iff.1 hp
   rw [hl] at hj
   rw [List.getElem_map, List.getElem_range] at hp
   obtain ⟨⟨cs, e1, e2, e3⟩, _⟩ := hf j hj
   rw [hp] at e2
   exact ⟨cs, e1, e2, e3⟩
  ·intro x hx
   obtain ⟨i, hi, rfl⟩ := List.mem_map.1 hx
   exact (hf i (List.mem_range.1 hi)).2
end
section
variable {H : Type} {enc : TypeId × Value → H}
set_option maxRecDepth 100000 in
theorem law_post {f : Func} {s : ChangeSpec} {W W' : World} {args : Array Value} {ds gs : List (DataW H)} {ps : List MemPlace} (hW : DataW.Whole enc Tryz.prog f.params.toList s.vars false W args.toList ds gs ps) (hb : Below W.heap.size W W') (hv : s.vars = []) (hsv : (s.fn H (ds ++ gs)).vars = []) (hrt : f.resultTypes = #[4]) (hsr : (s.fn H (ds ++ gs)).results = [.lit (.bool true)])
  (hargs : ∀ sp : Nat → Bool, (∀ p ∈ ps, sp p.block = true) → DataW.TrodAll enc Tryz.prog W' 0 sp true f.params.toList args.toList (s.fn H (ds ++ gs)).args ps) :
  s.post enc Tryz.prog f false true false false W args (.bool true) W' := by
 have hlt : ∀ p ∈ ps, p.block < W.heap.size := fun p hp => hW.lt p hp
 have hres : ∀ (b : Nat) (sp : Nat → Bool) (hd : Bool), DataW.TrodAll enc Tryz.prog W' b sp hd f.resultTypes.toList ((Value.bool true).resultList f.resultTypes.size) (s.fn H (ds ++ gs)).results [] := by
  intro b sp hd
  rw [hrt, hsr]
  exact trodAll_cons_mk (shut_bool Tryz.underlying4 _) trodAll_mk0
 have hvars : ∀ sp : Nat → Bool, DataW.TrodVars enc Tryz.prog W' sp s.vars (s.fn H (ds ++ gs)).vars [] := by
  intro sp
  rw [hv, hsv]
  rfl
 have hsp := fun p hp => decide_eq_true (hlt p hp)
 have hW2 := hW
 obtain ⟨_, _, _, _, _, hz0, _⟩ := hW2
 have hz : ∀ b off, MemPlace.cell b off ∈ ps → W'.frozen? ⟨b, off, none⟩ = false := fun b off hp => (hb.frozen (hlt _ hp)).trans (hz0 b off hp)
 refine ⟨ds, gs, ps, [], ps, [], hW, hres _ _ _, hargs _ hsp, hvars _, World.keptBut_mono (fun p hp => ⟨hp, .inr (.inl hp)⟩) (hb.frame (· ∈ ps)), fun _ => ?_⟩
 refine ⟨ok_one hrt rfl (okWide_bool_mk Tryz.underlying4 _), _, _, ([] ++ ps) ++ [], ⟨[] ++ ps, [], trodAll_append (hargs _ (fun _ _ => rfl)) (hres _ _ _), hvars _, rfl, ?_, fun h => by cases h⟩, ?_⟩
 ·intro b off hp
  exact hz b off (by simpa using hp)
 ·intro p hp _
  simpa using hp
end
end Go.Proofs.YtncanijjnhkgbaaGreatDoor.PMsgsPut
namespace Go.Proofs.YtncanijjnhkgbaaGreatDoor.PMsgsPut
open Go.RowKit Go.Proofs.YtncanijjnhkgbaaGreatDoorW.PrintWords Go.Proofs.YtncanijjnhkgbaaGreatDoorW.PrintLast Go.Proofs.YtncanijjnhkgbaaGreatDoorW.PrintMore
def leapO (y : Int) : Int := if y % 4 = 0 ∧ (y % 100 ≠ 0 ∨ y % 400 = 0) then 1 else 0
def daysO (y : Int) : Int := 365 * (y - 1970) + ((y - 1) / 4 - (y - 1) / 100 + (y - 1) / 400) - 477
def monL (y m : Int) : Int := if m = 2 then 28 + leapO y else if m = 4 ∨ m = 6 ∨ m = 9 ∨ m = 11 then 30 else 31
def cumO (y m : Int) : Int := if m ≤ 1 then 0 else if m = 2 then 31 else (153 * (m - 3) + 2) / 5 + 59 + leapO y
theorem leapO_01 (y : Int) : 0 ≤ leapO y ∧ leapO y ≤ 1 := by
 unfold leapO
 split <;> omega
theorem daysO_succ (y : Int) : daysO (y + 1) = daysO y + 365 + leapO y := by
 unfold daysO leapO
 split <;> omega
theorem cumO_succ (y m : Int) (h1 : 1 ≤ m) (h2 : m ≤ 12) : cumO y (m + 1) = cumO y m + monL y m := by
 have : m = 1 ∨ m = 2 ∨ m = 3 ∨ m = 4 ∨ m = 5 ∨ m = 6 ∨ m = 7 ∨ m = 8 ∨ m = 9 ∨ m = 10 ∨ m = 11 ∨ m = 12 := by omega
 rcases this with rfl | rfl | rfl | rfl | rfl | rfl | rfl | rfl | rfl | rfl | rfl | rfl <;> simp [cumO, monL] <;> omega
theorem monL_pos (y m : Int) : 28 ≤ monL y m ∧ monL y m ≤ 31 := by
 have := leapO_01 y
 unfold monL
 split
 ·omega
 ·split <;> omega
theorem leap_era (E z : Int) : leapO (E * 400 + z + 1) = leapO (z + 1) := by
 have e1 : (E * 400 + z + 1) % 4 = (z + 1) % 4 := by omega
 have e2 : (E * 400 + z + 1) % 100 = (z + 1) % 100 := by omega
 have e3 : (E * 400 + z + 1) % 400 = (z + 1) % 400 := by omega
 unfold leapO
 rw [e1, e2, e3]
theorem era_doy (doe yoe doy : Int) (h0 : 0 ≤ doe) (h1 : doe < 146097) (hy : yoe = (doe - doe / 1460 + doe / 36524 - doe / 146096) / 365) (hd : doy = doe - (365 * yoe + yoe / 4 - yoe / 100)) :
  doy ≤ 364 + leapO (yoe + 1) := by
 unfold leapO
 have k : doe / 36524 = 0 ∨ doe / 36524 = 1 ∨ doe / 36524 = 2 ∨ doe / 36524 = 3 ∨ doe / 36524 = 4 := by omega
 rcases k with k | k | k | k | k <;> rw [k] at hy
 ·have e : doe / 146096 = 0 := by omega
  have f : yoe / 100 = 0 := by omega
  obtain ⟨d, hd4⟩ : ∃ d, d = yoe / 4 := ⟨_, rfl⟩
  rw [e] at hy
  rw [f, ← hd4] at hd
  by_cases h3 : yoe % 4 = 3
  ·by_cases h99 : yoe % 100 = 99
   ·rw [if_neg (by omega)]
    omega
   ·rw [if_pos (by omega)]
    omega
  ·have hq : doe / 1460 ≤ d := by omega
   split <;> omega
 ·have e : doe / 146096 = 0 := by omega
  have f : yoe / 100 = 1 := by omega
  obtain ⟨d, hd4⟩ : ∃ d, d = yoe / 4 := ⟨_, rfl⟩
  rw [e] at hy
  rw [f, ← hd4] at hd
  by_cases h3 : yoe % 4 = 3
  ·by_cases h99 : yoe % 100 = 99
   ·rw [if_neg (by omega)]
    omega
   ·rw [if_pos (by omega)]
    omega
  ·have hq : doe / 1460 ≤ d := by omega
   split <;> omega
 ·have e : doe / 146096 = 0 := by omega
  have f : yoe / 100 = 2 := by omega
  obtain ⟨d, hd4⟩ : ∃ d, d = yoe / 4 := ⟨_, rfl⟩
  rw [e] at hy
  rw [f, ← hd4] at hd
  by_cases h3 : yoe % 4 = 3
  ·by_cases h99 : yoe % 100 = 99
   ·rw [if_neg (by omega)]
    omega
   ·rw [if_pos (by omega)]
    omega
  ·have hq : doe / 1460 ≤ d := by omega
   split <;> omega
 ·have e : doe / 146096 = 0 := by omega
  have f : yoe / 100 = 3 := by omega
  obtain ⟨d, hd4⟩ : ∃ d, d = yoe / 4 := ⟨_, rfl⟩
  rw [e] at hy
  rw [f, ← hd4] at hd
  by_cases h3 : yoe % 4 = 3
  ·by_cases h99 : yoe % 100 = 99
   ·rw [if_pos (by omega)]
    omega
   ·rw [if_pos (by omega)]
    omega
  ·have hq : doe / 1460 ≤ d := by omega
   split <;> omega
 ·have e : doe = 146096 := by omega
  subst e
  split <;> omega
theorem civ_days (D : Int) (h1 : 712163 ≤ D) (h2 : D ≤ 3652364) : daysO (civY D) + cumO (civY D) (civM D) + civD D - 1 = D - 719468 ∧ civD D ≤ monL (civY D) (civM D) := by
 obtain ⟨k1, k2, k3, k4, k5, k6⟩ := civ_bounds D h1 h2
 have hcd := civ_day D h1 h2
 have hdo := day_of (civY D) (civM D) (civD D) _ _ (by omega) (by omega) k3 k4 k5 k6 rfl rfl
 rw [hcd] at hdo
 have hdo := Option.some.inj hdo
 constructor
 ·generalize civY D = y at *
  generalize civM D = m at *
  generalize civD D = d at *
  clear hcd
  have hm : m = 1 ∨ m = 2 ∨ 3 ≤ m := by omega
  unfold daysO cumO leapO
  rcases hm with rfl | rfl | hm
  ·rw [if_pos (by decide)]
   rw [if_pos (by decide), if_pos (by decide)] at hdo
   omega
  ·rw [if_neg (by decide), if_pos rfl]
   rw [if_pos (by decide), if_pos (by decide)] at hdo
   omega
  ·rw [if_neg (by omega), if_neg (by omega)]
   rw [if_neg (by omega), if_neg (by omega)] at hdo
   generalize (153 * (m - 3) + 2) / 5 = q at *
   clear k3 k4 k5 k6 hm h1 h2
   split <;> omega
 ·clear hcd hdo
  obtain ⟨doe, hdoe⟩ : ∃ x, x = D % 146097 := ⟨_, rfl⟩
  have b1 : 0 ≤ doe ∧ doe < 146097 := by omega
  obtain ⟨yoe, hyoe⟩ : ∃ x, x = (doe - doe / 1460 + doe / 36524 - doe / 146096) / 365 := ⟨_, rfl⟩
  obtain ⟨doy, hdoy⟩ : ∃ x, x = doe - (365 * yoe + yoe / 4 - yoe / 100) := ⟨_, rfl⟩
  have b3 : 0 ≤ doy ∧ doy ≤ 366 := doy_bound doe yoe doy b1.1 b1.2 hyoe hdoy
  have b4 := era_doy doe yoe doy b1.1 b1.2 hyoe hdoy
  obtain ⟨mp, hmp⟩ : ∃ x, x = (5 * doy + 2) / 153 := ⟨_, rfl⟩
  have hy : civY D = D / 146097 * 400 + yoe + (if mp % 12 + 3 > 12 then 1 else 0) := by rw [hmp, hdoy, hyoe, hdoe]; rfl
  have hm : civM D = if mp % 12 + 3 > 12 then mp % 12 + 3 - 12 else mp % 12 + 3 := by rw [hmp, hdoy, hyoe, hdoe]; rfl
  have hd : civD D = doy - (153 * mp + 2) / 5 + 1 := by rw [hmp, hdoy, hyoe, hdoe]; rfl
  have hmp2 : mp ≤ 11 := by have := b3.2; omega
  have hmm : mp % 12 = mp := Int.emod_eq_of_lt (by omega) (by omega)
  rw [hmm] at hy hm
  rw [hd]
  by_cases h11 : mp = 11
  ·have hgt : mp + 3 > 12 := by rw [h11]; decide
   rw [if_pos hgt] at hy hm
   have hl : leapO (civY D) = leapO (yoe + 1) := by
    rw [hy]
    exact leap_era _ _
   have e9 : mp + 3 - 12 = 2 := by rw [h11]; decide
   rw [e9] at hm
   clear hy hd hmp hyoe hdoe h1 h2 k1 k2 k3 k4 k5 k6 hmm
   unfold monL
   rw [hm, if_pos rfl, hl, h11]
   clear hm hl
   omega
  ·have hq : 0 ≤ mp := by omega
   clear hy hd hyoe hdoe hdoy h1 h2 k1 k2 k3 k4 k5 k6 hmm b4
   unfold monL
   by_cases h10 : mp = 10
   ·rw [if_pos (by omega)] at hm
    rw [if_neg (by omega), if_neg (by omega)]
    omega
   ·rw [if_neg (by omega)] at hm
    rw [if_neg (by intro h; rw [h] at hm; omega)]
    have hc : mp = 0 ∨ mp = 1 ∨ mp = 2 ∨ mp = 3 ∨ mp = 4 ∨ mp = 5 ∨ mp = 6 ∨ mp = 7 ∨ mp = 8 ∨ mp = 9 := by omega
    generalize civM D = M at hm ⊢
    subst hm
    rcases hc with rfl | rfl | rfl | rfl | rfl | rfl | rfl | rfl | rfl | rfl
    all_goals first | (rw [if_pos (by decide)]; omega) | (rw [if_neg (by decide)]; omega)
theorem daysO_mono (y : Int) : ∀ n : Nat, daysO y ≤ daysO (y + n)
 | 0 => by rw [show y + ((0 : Nat) : Int) = y by omega]; exact Int.le_refl _
 | n + 1 => by
  have h := daysO_mono y n
  have h2 := daysO_succ (y + n)
  have h3 := leapO_01 (y + n)
  rw [show y + ((n + 1 : Nat) : Int) = y + n + 1 by omega]
  omega
theorem daysO_le {y z : Int} (h : y ≤ z) : daysO y ≤ daysO z := by
 have := daysO_mono y (z - y).toNat
 rwa [show y + ((z - y).toNat : Int) = z by omega] at this
theorem cumO_le (y : Int) {a b : Int} (h1 : 1 ≤ a) (h : a ≤ b) (h2 : b ≤ 13) : cumO y a ≤ cumO y b := by
 obtain ⟨n, hn⟩ : ∃ n : Nat, b = a + n := ⟨(b - a).toNat, by omega⟩
 subst hn
 induction n with
 | zero => rw [show a + ((0 : Nat) : Int) = a by omega]; exact Int.le_refl _
 | succ n ih =>
  have h3 := ih (by omega) (by omega)
  have h4 := cumO_succ y (a + n) (by omega) (by omega)
  have h5 := monL_pos y (a + n)
  rw [show a + ((n + 1 : Nat) : Int) = a + n + 1 by omega]
  omega
end Go.Proofs.YtncanijjnhkgbaaGreatDoor.PMsgsPut
namespace Go.Proofs.YtncanijjnhkgbaaGreatDoor.PMsgsPut
open Go.RowKit Go.Proofs.YtncanijjnhkgbaaGreatDoorW.PrintWords Go.Proofs.YtncanijjnhkgbaaGreatDoorW.PrintLast Go.Proofs.YtncanijjnhkgbaaGreatDoorW.PrintMore
attribute [local go_sem] max2_int min2_int max_two min_two max_three min_three max_four min_four
set_option linter.unusedVariables false
set_option linter.unusedSimpArgs false
noncomputable def warderref02_PutBool.f (a0 : Bool) : Option (List Int) := if a0 = true then (some (([255] : List Int))) else (some (([0] : List Int)))
set_option maxHeartbeats 8000000 in
set_option maxRecDepth 100000 in
theorem warderref02_PutBool.calls (a0 : Bool) (r : List Int) (w : World) (h : warderref02_PutBool.f a0 = some r) :
  Calls Tryz.prog 62 #[.bool a0] w fun e w' => ∃ v0_ : Value, e = .returned (v0_) ∧ Kd.R (Kd.int .u8) 5 w' w.heap.size (fun _ => True) v0_ r ∧ Below w.heap.size w w' := by
 have HB := Aside0.mk (Below.refl w.heap.size w)
 have H : (if a0 = true then (some (([255] : List Int))) else (some (([0] : List Int)))) = some r := h
 clear h
 by_cases c2 : a0 = true
 ·subst c2
  have H1 : (some (([255] : List Int))) = some r := by rw [if_pos rfl] at H; exact H
  clear H
  have H := H1
  clear H1
  obtain ⟨y387, hy387⟩ : ∃ y_ : List Int, y_ = (([255] : List Int)) := ⟨_, rfl⟩
  replace H : (some y387) = some r := by first | (rw [hy387]; with_reducible exact H) | (have H2_ := (Option.bind_some _ _).symm.trans H; rw [hy387]; with_reducible exact H2_) | (have H2_ := (Option.bind_some _ _).symm.trans H; with_reducible exact H2_) | with_reducible exact H | (rw [hy387]; exact H) | exact H
  have Ny387 := Aside0.mk hy387
  clear hy387
  obtain rfl := Option.some.inj H
  go_enter Tryz.func62, Tryz.ntmps62
  go_wp2_with (first | ((with_reducible refine gate_dst (N := 4) rfl ?_); refine Kd.R_lit (Kd.int .u8) _ 5 ?hg (N := 4) ?hd (xs := ([255] : List Int)) (inner := [.int .u8 255]) (ok := fun _ => True) (okp := fun _ => True) ?hr ?hp (fun _ hk => hk) trivial (Below.refl _ _) (Nat.le_refl _) (by simp) ?_; (case hd => rfl); (case hg => rfl); (case hr => first | (go_simp; done) | (go_simp; rfl)); (case hp => exact (Reps.one (show Kd.M (Kd.int .u8) _ _ _ 255 [.int .u8 255] from rfl) (Reps.none _ _))); intro v388 w3 ho4 hb hg_ hnew_; clear hg_ hnew_; (first | rw [← Ny387.out] at ho4 | (simp only [Int.reduceToNat] at ho4; rw [← Ny387.out] at ho4)); have n0_ := Aside0.mk (Kd.R_lower ho4 (below_size (by repeat (first | (with_reducible first | exact HB.out | apply below_alloc | apply pw_below_drewN | apply below_drew1) | exact HB.out)))); have n1_ := Aside0.mk (below_step (by repeat (first | (with_reducible first | exact HB.out | apply below_alloc | apply pw_below_drewN | apply below_drew1) | exact HB.out)) hb); clear HB; have HO389 := n0_; have HB := n1_; clear n0_ n1_; clear hb ho4))
  go_ret
  exact ⟨_, by first | rfl | (simp [errW_none, errW_some] <;> rfl) | (simp [*, errW_none, errW_some] <;> rfl), by (with_reducible repeat (first | apply Kd.R_alloc | apply Kd.R_drewN | apply Kd.R_drew)); exact HO389.out, by repeat (first | (with_reducible first | exact HB.out | apply below_alloc | apply pw_below_drewN | apply below_drew1) | exact HB.out)⟩
 ·replace c2 := Bool.eq_false_iff.mpr c2
  subst c2
  have H1 : (some (([0] : List Int))) = some r := by rw [if_neg (show ¬ (false = true) by decide)] at H; exact H
  clear H
  have H := H1
  clear H1
  obtain ⟨y390, hy390⟩ : ∃ y_ : List Int, y_ = (([0] : List Int)) := ⟨_, rfl⟩
  replace H : (some y390) = some r := by first | (rw [hy390]; with_reducible exact H) | (have H2_ := (Option.bind_some _ _).symm.trans H; rw [hy390]; with_reducible exact H2_) | (have H2_ := (Option.bind_some _ _).symm.trans H; with_reducible exact H2_) | with_reducible exact H | (rw [hy390]; exact H) | exact H
  have Ny390 := Aside0.mk hy390
  clear hy390
  obtain rfl := Option.some.inj H
  go_enter Tryz.func62, Tryz.ntmps62
  go_wp2_with (first | ((with_reducible refine gate_dst (N := 5) rfl ?_); refine Kd.R_lit (Kd.int .u8) _ 5 ?hg (N := 5) ?hd (xs := ([0] : List Int)) (inner := [.int .u8 0]) (ok := fun _ => True) (okp := fun _ => True) ?hr ?hp (fun _ hk => hk) trivial (Below.refl _ _) (Nat.le_refl _) (by simp) ?_; (case hd => rfl); (case hg => rfl); (case hr => first | (go_simp; done) | (go_simp; rfl)); (case hp => exact (Reps.one (show Kd.M (Kd.int .u8) _ _ _ 0 [.int .u8 0] from rfl) (Reps.none _ _))); intro v391 w5 ho6 hb hg_ hnew_; clear hg_ hnew_; (first | rw [← Ny390.out] at ho6 | (simp only [Int.reduceToNat] at ho6; rw [← Ny390.out] at ho6)); have n0_ := Aside0.mk (Kd.R_lower ho6 (below_size (by repeat (first | (with_reducible first | exact HB.out | apply below_alloc | apply pw_below_drewN | apply below_drew1) | exact HB.out)))); have n1_ := Aside0.mk (below_step (by repeat (first | (with_reducible first | exact HB.out | apply below_alloc | apply pw_below_drewN | apply below_drew1) | exact HB.out)) hb); clear HB; have HO392 := n0_; have HB := n1_; clear n0_ n1_; clear hb ho6))
  go_ret
  exact ⟨_, by first | rfl | (simp [errW_none, errW_some] <;> rfl) | (simp [*, errW_none, errW_some] <;> rfl), by (with_reducible repeat (first | apply Kd.R_alloc | apply Kd.R_drewN | apply Kd.R_drew)); exact HO392.out, by repeat (first | (with_reducible first | exact HB.out | apply below_alloc | apply pw_below_drewN | apply below_drew1) | exact HB.out)⟩
noncomputable def warderref09_Truth.f (a0 : Bool) : Option (Int × List Int × (List (S44))) := (warderref02_PutBool.f a0).bind fun t394 => (some (1, t394, ([] : List (S44))))
set_option maxHeartbeats 8000000 in
set_option maxRecDepth 100000 in
theorem warderref09_Truth.calls (a0 : Bool) (r1 : Int) (r2 : List Int) (r3 : List (S44)) (w : World) (h : warderref09_Truth.f a0 = some (r1, r2, r3)) :
  Calls Tryz.prog 29 #[.bool a0] w fun e w' => ∃ v1_ v2_ : Value, e = .returned (.agg #[.int .u8 r1, v1_, v2_]) ∧ Kd.R (Kd.int .u8) 5 w' w.heap.size (fun _ => True) v1_ r2 ∧ Kd.R k44 44 w' w.heap.size (fun k_ => some k_ ≠ (v1_ : Value).ownBlock) v2_ r3 ∧ Below w.heap.size w w' := by
 have hu44 := Tryz.underlying44
 have HB := Aside0.mk (Below.refl w.heap.size w)
 have H : ((warderref02_PutBool.f a0).bind fun t394 => (some (1, t394, ([] : List (S44))))) = some (r1, r2, r3) := h
 clear h
 replace H := Option.bind_eq_some_iff.mp H
 obtain ⟨t394, A20, H⟩ := H
 replace H : (some (1, t394, ([] : List (S44)))) = some (r1, r2, r3) := H
 have A2 := Aside0.mk A20
 clear A20
 simp only [Option.some.injEq, Prod.mk.injEq] at H
 obtain ⟨rfl, rfl, rfl⟩ := H
 go_enter Tryz.func29, Tryz.ntmps29
 go_wp2_with (first | ((with_reducible refine gate_dst (N := 2) rfl ?_); refine box_event ?hg (N := 2) ?hd (cs := #[.int .u8 0, .slice none 0 0, .slice none 0 0]) (t := 44) ?hr ?_; (case hd => rfl); (case hg => rfl); (case hr => first | (go_simp; done) | (go_simp; rfl)); intro gb393 hg w3 hbox hb; have n0_ := Aside0.mk (below_step (by repeat (first | (with_reducible first | exact HB.out | apply below_alloc | apply pw_below_drewN | apply below_drew1) | exact HB.out)) hb); have n1_ := Aside0.mk (hbox); have n2_ := Aside0.mk ((by rw [hg]; exact (below_size (by repeat (first | (with_reducible first | exact HB.out | apply below_alloc | apply pw_below_drewN | apply below_drew1) | exact HB.out))) : w.heap.size ≤ gb393)); have n3_ := Aside0.mk ((by rw [hg]; exact (below_size (by repeat (first | (with_reducible first | exact HB.out | apply below_alloc | apply pw_below_drewN | apply below_drew1) | exact HB.out))) : w.heap.size ≤ gb393)); clear HB; have HB := n0_; have BK393 := n1_; have GW393 := n2_; have GE393 := n3_; clear n0_ n1_ n2_ n3_; clear hb hbox hg) | ((with_reducible refine gate_callee (f := 62) rfl ?_); refine goesL_ (some 4) rfl rfl Tryz.func62 (by kernel_rfl) rfl #[.bool a0] rfl (by (try simp only [List.map_toArray, List.map_cons, List.map_nil]); first | done | rfl | (simp only [List.length_drop, List.length_take]; rfl)) ?_; (with_reducible refine (warderref02_PutBool.calls a0 t394 _ A2.out).mono ?_); rintro e w4 ⟨v395, rfl, ho0, hb⟩; refine ⟨_, rfl, ?_⟩; have n0_ := Aside0.mk (Kd.R_lower ho0 (below_size (by repeat (first | (with_reducible first | exact HB.out | apply below_alloc | apply pw_below_drewN | apply below_drew1 | refine below_set ?_ GE393.out) | exact HB.out)))); have n1_ := Aside0.mk (blk_below (g := gb393) (o := .cells #[.int .u8 0, .slice none 0 0, .slice none 0 0] 44 (0, 0)) (by (with_reducible repeat (first | refine blk_drewN ?_ _ | refine blk_drew ?_ | refine blk_alloc ?_ _)); exact BK393.out) hb); have n2_ := Aside0.mk (below_step (by repeat (first | (with_reducible first | exact HB.out | apply below_alloc | apply pw_below_drewN | apply below_drew1 | refine below_set ?_ GE393.out) | exact HB.out)) hb); clear BK393; clear HB; have HO396 := n0_; have BK393 := n1_; have HB := n2_; clear n0_ n1_ n2_; (try clear hb); (try clear hb2); (try clear hk); (try clear hi); (try clear ho0); obtain ⟨Ao5, co5, eo5⟩ := Kd.R_slice HO396.out; subst eo5; have hcz6_0 : w4.cell? ⟨gb393, 0, none⟩ = some (.int .u8 0) := (blk_cell BK393.out 0).trans rfl; have hcz6_1 : w4.cell? ⟨gb393, 1, none⟩ = some (.slice none 0 0) := (blk_cell BK393.out 1).trans rfl; have hcz6_2 : w4.cell? ⟨gb393, 2, none⟩ = some (.slice none 0 0) := (blk_cell BK393.out 2).trans rfl; have hfz6_0 := blk_frozen BK393.out 0; have hfz6_1 := blk_frozen BK393.out 1; have hfz6_2 := blk_frozen BK393.out 2))
 refine bodyPost_ret (results_cell_row rfl _ _ gb393 44 #[.int .u8 1, .slice Ao5 t394.length co5, .slice none 0 0] (0, 0) _ rfl (by (with_reducible repeat (first | refine blk_drewN ?_ _ | refine blk_drew ?_ | refine blk_alloc ?_ _)); refine blk_put (cs := #[.int .u8 1, .slice Ao5 t394.length co5, .slice none 0 0]) ?_ 2 _ rfl; (with_reducible repeat (first | refine blk_drewN ?_ _ | refine blk_drew ?_ | refine blk_alloc ?_ _)); refine blk_put (cs := #[.int .u8 1, .slice none 0 0, .slice none 0 0]) ?_ 1 _ rfl; (with_reducible repeat (first | refine blk_drewN ?_ _ | refine blk_drew ?_ | refine blk_alloc ?_ _)); refine blk_put (cs := #[.int .u8 0, .slice none 0 0, .slice none 0 0]) ?_ 0 _ rfl; (with_reducible repeat (first | refine blk_drewN ?_ _ | refine blk_drew ?_ | refine blk_alloc ?_ _)); exact BK393.out) Tryz.underlying44 rfl (by kernel_rfl)) rfl ?_
 exact ⟨_, _, by first | rfl | (simp [errW_none, errW_some] <;> rfl) | (simp [*, errW_none, errW_some] <;> rfl), by (with_reducible repeat (first | apply Kd.R_alloc | apply Kd.R_drewN | apply Kd.R_drew)); exact Kd.R_mono (Kd.R_far (p := ⟨gb393, 2, none⟩) (Kd.R_far (p := ⟨gb393, 1, none⟩) (Kd.R_far (p := ⟨gb393, 0, none⟩) (Kd.R_types HO396.out BK393.out (by decide)) (fun _ hk => hk.2) (.int .u8 1)) (fun _ hk => hk.2) (.slice Ao5 t394.length co5)) (fun _ hk => hk.2) (.slice none 0 0)) (fun _ hk => trivial), by first | exact Kd.R_nil _ _ _ _ _ | exact Kd.N_nil _ _ _ _ _ | exact Kd.V_nil _ _ _ _ _ | exact Kd.Q_nil _ _ _ _ _ | exact Kd.S_nil _ _ _ _ _, by repeat (first | (with_reducible first | exact HB.out | apply below_alloc | apply pw_below_drewN | apply below_drew1 | refine below_set ?_ GE393.out) | exact HB.out)⟩
noncomputable def warderref03_leaps.f (a0 : Int) : Option (Int) := some (wrap64 ((wrap64 ((wrap64 (Int.tdiv a0 4)) - (wrap64 (Int.tdiv a0 100)))) + (wrap64 (Int.tdiv a0 400))))
set_option maxHeartbeats 8000000 in
set_option maxRecDepth 100000 in
theorem warderref03_leaps.calls (a0 : Int) (r : Int) (w : World) (h : warderref03_leaps.f a0 = some r) :
  Calls Tryz.prog 111 #[.int .i64 a0] w fun e w' => e = .returned (.int .i64 r) ∧ Drawn0 w w' := by
 have H : (some (wrap64 ((wrap64 ((wrap64 (Int.tdiv a0 4)) - (wrap64 (Int.tdiv a0 100)))) + (wrap64 (Int.tdiv a0 400))))) = some r := h
 clear h
 obtain rfl := Option.some.inj H
 go_enter Tryz.func111, Tryz.ntmps111
 go_wp2
 go_ret
 exact ⟨by first | rfl | (simp; done) | (simp [*]; done), by repeat (first | exact Drawn0.refl _ | apply Drawn0.step)⟩
noncomputable def warderref03_days.f (a0 : Int) : Option (Int) := (warderref03_leaps.f (wrap64 (a0 - 1))).bind fun t397 => ((warderref03_leaps.f 1969).bind fun t398 => (some (wrap64 ((wrap64 ((wrap64 (365 * (wrap64 (a0 - 1970)))) + t397)) - t398))))
set_option maxHeartbeats 8000000 in
set_option maxRecDepth 100000 in
theorem warderref03_days.calls (a0 : Int) (r : Int) (w : World) (h : warderref03_days.f a0 = some r) :
  Calls Tryz.prog 91 #[.int .i64 a0] w fun e w' => e = .returned (.int .i64 r) ∧ Drawn0 w w' := by
 have H : ((warderref03_leaps.f (wrap64 (a0 - 1))).bind fun t397 => ((warderref03_leaps.f 1969).bind fun t398 => (some (wrap64 ((wrap64 ((wrap64 (365 * (wrap64 (a0 - 1970)))) + t397)) - t398))))) = some r := h
 clear h
 replace H := Option.bind_eq_some_iff.mp H
 obtain ⟨t397, A20, H⟩ := H
 replace H : ((warderref03_leaps.f 1969).bind fun t398 => (some (wrap64 ((wrap64 ((wrap64 (365 * (wrap64 (a0 - 1970)))) + t397)) - t398)))) = some r := H
 have A2 := Aside0.mk A20
 clear A20
 replace H := Option.bind_eq_some_iff.mp H
 obtain ⟨t398, A30, H⟩ := H
 replace H : (some (wrap64 ((wrap64 ((wrap64 (365 * (wrap64 (a0 - 1970)))) + t397)) - t398))) = some r := H
 have A3 := Aside0.mk A30
 clear A30
 obtain rfl := Option.some.inj H
 go_enter Tryz.func91, Tryz.ntmps91
 go_wp2_with (first | ((with_reducible refine gate_callee (f := 111) rfl ?_); refine goesL_ (some 8) rfl rfl Tryz.func111 (by kernel_rfl) rfl #[.int .i64 (wrap64 (a0 - 1))] rfl (by (try simp only [List.map_toArray, List.map_cons, List.map_nil]); first | done | rfl | (simp only [List.length_drop, List.length_take]; rfl)) ?_; (with_reducible refine (warderref03_leaps.calls (wrap64 (a0 - 1)) t397 _ A2.out).mono ?_); rintro e w' ⟨rfl, ⟨nd, rfl⟩⟩; refine ⟨_, rfl, ?_⟩) | ((with_reducible refine gate_callee (f := 111) rfl ?_); refine goesL_ (some 10) rfl rfl Tryz.func111 (by kernel_rfl) rfl #[.int .i64 1969] rfl (by (try simp only [List.map_toArray, List.map_cons, List.map_nil]); first | done | rfl | (simp only [List.length_drop, List.length_take]; rfl)) ?_; (with_reducible refine (warderref03_leaps.calls 1969 t398 _ A3.out).mono ?_); rintro e w' ⟨rfl, ⟨nd, rfl⟩⟩; refine ⟨_, rfl, ?_⟩))
 go_ret
 exact ⟨by first | rfl | (simp; done) | (simp [*]; done), by repeat (first | exact Drawn0.refl _ | apply Drawn0.step)⟩
noncomputable def warderref03_leap.f (a0 : Int) : Option (Bool) := if (Int.tmod a0 4) = 0 then (if (Int.tmod a0 100) = 0 then (some ((Int.tmod a0 400) == 0)) else (some true)) else (some false)
set_option maxHeartbeats 8000000 in
set_option maxRecDepth 100000 in
theorem warderref03_leap.calls (a0 : Int) (r : Bool) (w : World) (h : warderref03_leap.f a0 = some r) :
  Calls Tryz.prog 112 #[.int .i64 a0] w fun e w' => e = .returned (.bool r) ∧ Drawn0 w w' := by
 have H : (if (Int.tmod a0 4) = 0 then (if (Int.tmod a0 100) = 0 then (some ((Int.tmod a0 400) == 0)) else (some true)) else (some false)) = some r := h
 clear h
 by_cases c2 : (Int.tmod a0 4) = 0
 ·rw [if_pos c2] at H
  have c2b0 : ((Int.tmod a0 4) == 0) = true := beq_iff_eq.mpr c2
  have c2b1 : ((Int.tmod a0 4) != 0) = false := bne_eq_false_iff_eq.mpr c2
  clear c2
  by_cases c3 : (Int.tmod a0 100) = 0
  ·rw [if_pos c3] at H
   have c3b0 : ((Int.tmod a0 100) == 0) = true := beq_iff_eq.mpr c3
   have c3b1 : ((Int.tmod a0 100) != 0) = false := bne_eq_false_iff_eq.mpr c3
   clear c3
   obtain rfl := Option.some.inj H
   go_enter Tryz.func112, Tryz.ntmps112
   go_wp2
   go_ret
   exact ⟨by first | rfl | (simp; done) | (simp [*]; done), by repeat (first | exact Drawn0.refl _ | apply Drawn0.step)⟩
  ·rw [if_neg c3] at H
   have c3b0 : ((Int.tmod a0 100) == 0) = false := beq_eq_false_iff_ne.mpr c3
   have c3b1 : ((Int.tmod a0 100) != 0) = true := bne_iff_ne.mpr c3
   obtain rfl := Option.some.inj H
   go_enter Tryz.func112, Tryz.ntmps112
   go_wp2
   go_ret
   exact ⟨by first | rfl | (simp; done) | (simp [*]; done), by repeat (first | exact Drawn0.refl _ | apply Drawn0.step)⟩
 ·rw [if_neg c2] at H
  have c2b0 : ((Int.tmod a0 4) == 0) = false := beq_eq_false_iff_ne.mpr c2
  have c2b1 : ((Int.tmod a0 4) != 0) = true := bne_iff_ne.mpr c2
  obtain rfl := Option.some.inj H
  go_enter Tryz.func112, Tryz.ntmps112
  go_wp2
  go_ret
  exact ⟨by first | rfl | (simp; done) | (simp [*]; done), by repeat (first | exact Drawn0.refl _ | apply Drawn0.step)⟩
noncomputable def warderref03_month.f (a0 : Int) (a1 : Int) : Option (Int) := (some (([31, 28, 31, 30, 31, 30, 31, 31, 30, 31, 30, 31] : List Int) : List Int)).bind fun y399 => (if a1 = 2 then ((warderref03_leap.f a0).bind fun t402 => (if t402 = true then (some 29) else (if 0 ≤ (wrap64 (a1 - 1)) then (if (wrap64 (a1 - 1)) < (y399.length : Int) then (some (rd y399 (wrap64 (a1 - 1)))) else (none)) else (none)))) else (if 0 ≤ (wrap64 (a1 - 1)) then (if (wrap64 (a1 - 1)) < (y399.length : Int) then (some (rd y399 (wrap64 (a1 - 1)))) else (none)) else (none)))
set_option maxHeartbeats 8000000 in
set_option maxRecDepth 100000 in
theorem warderref03_month.calls (a0 : Int) (a1 : Int) (r : Int) (w : World) (h : warderref03_month.f a0 a1 = some r) :
  Calls Tryz.prog 92 #[.int .i64 a0, .int .i64 a1] w fun e w' => e = .returned (.int .i64 r) ∧ Below w.heap.size w w' := by
 have HB := Aside0.mk (Below.refl w.heap.size w)
 have H : ((some (([31, 28, 31, 30, 31, 30, 31, 31, 30, 31, 30, 31] : List Int) : List Int)).bind fun y399 => (if a1 = 2 then ((warderref03_leap.f a0).bind fun t402 => (if t402 = true then (some 29) else (if 0 ≤ (wrap64 (a1 - 1)) then (if (wrap64 (a1 - 1)) < (y399.length : Int) then (some (rd y399 (wrap64 (a1 - 1)))) else (none)) else (none)))) else (if 0 ≤ (wrap64 (a1 - 1)) then (if (wrap64 (a1 - 1)) < (y399.length : Int) then (some (rd y399 (wrap64 (a1 - 1)))) else (none)) else (none)))) = some r := h
 clear h
 obtain ⟨y399, hy399⟩ : ∃ y_ : List Int, y_ = (([31, 28, 31, 30, 31, 30, 31, 31, 30, 31, 30, 31] : List Int)) := ⟨_, rfl⟩
 replace H : (if a1 = 2 then ((warderref03_leap.f a0).bind fun t402 => (if t402 = true then (some 29) else (if 0 ≤ (wrap64 (a1 - 1)) then (if (wrap64 (a1 - 1)) < (y399.length : Int) then (some (rd y399 (wrap64 (a1 - 1)))) else (none)) else (none)))) else (if 0 ≤ (wrap64 (a1 - 1)) then (if (wrap64 (a1 - 1)) < (y399.length : Int) then (some (rd y399 (wrap64 (a1 - 1)))) else (none)) else (none))) = some r := by first | (rw [hy399]; with_reducible exact H) | (have H2_ := (Option.bind_some _ _).symm.trans H; rw [hy399]; with_reducible exact H2_) | (have H2_ := (Option.bind_some _ _).symm.trans H; with_reducible exact H2_) | with_reducible exact H | (rw [hy399]; exact H) | exact H
 have Ny399 := Aside0.mk hy399
 clear hy399
 by_cases c3 : a1 = 2
 ·rw [if_pos c3] at H
  have c3b0 : (a1 == 2) = true := beq_iff_eq.mpr c3
  have c3b1 : (a1 != 2) = false := bne_eq_false_iff_eq.mpr c3
  clear c3
  replace H := Option.bind_eq_some_iff.mp H
  obtain ⟨t402, A40, H⟩ := H
  replace H : (if t402 = true then (some 29) else (if 0 ≤ (wrap64 (a1 - 1)) then (if (wrap64 (a1 - 1)) < (y399.length : Int) then (some (rd y399 (wrap64 (a1 - 1)))) else (none)) else (none))) = some r := H
  have A4 := Aside0.mk A40
  clear A40
  by_cases c5 : t402 = true
  ·subst c5
   have H1 : (some 29) = some r := by rw [if_pos rfl] at H; exact H
   clear H
   have H := H1
   clear H1
   obtain rfl := Option.some.inj H
   go_enter Tryz.func92, Tryz.ntmps92
   go_wp2_with (first | ((with_reducible refine gate_dst (N := 6) rfl ?_); refine Kd.R_lit (Kd.int .i64) _ 3 ?hg (N := 6) ?hd (xs := ([31, 28, 31, 30, 31, 30, 31, 31, 30, 31, 30, 31] : List Int)) (inner := [.int .i64 31, .int .i64 28, .int .i64 31, .int .i64 30, .int .i64 31, .int .i64 30, .int .i64 31, .int .i64 31, .int .i64 30, .int .i64 31, .int .i64 30, .int .i64 31]) (ok := fun _ => True) (okp := fun _ => True) ?hr ?hp (fun _ hk => hk) trivial (Below.refl _ _) (Nat.le_refl _) (by simp) ?_; (case hd => rfl); (case hg => rfl); (case hr => first | (go_simp; done) | (go_simp; rfl)); (case hp => exact (Reps.one (show Kd.M (Kd.int .i64) _ _ _ 31 [.int .i64 31] from rfl) (Reps.one (show Kd.M (Kd.int .i64) _ _ _ 28 [.int .i64 28] from rfl) (Reps.one (show Kd.M (Kd.int .i64) _ _ _ 31 [.int .i64 31] from rfl) (Reps.one (show Kd.M (Kd.int .i64) _ _ _ 30 [.int .i64 30] from rfl) (Reps.one (show Kd.M (Kd.int .i64) _ _ _ 31 [.int .i64 31] from rfl) (Reps.one (show Kd.M (Kd.int .i64) _ _ _ 30 [.int .i64 30] from rfl) (Reps.one (show Kd.M (Kd.int .i64) _ _ _ 31 [.int .i64 31] from rfl) (Reps.one (show Kd.M (Kd.int .i64) _ _ _ 31 [.int .i64 31] from rfl) (Reps.one (show Kd.M (Kd.int .i64) _ _ _ 30 [.int .i64 30] from rfl) (Reps.one (show Kd.M (Kd.int .i64) _ _ _ 31 [.int .i64 31] from rfl) (Reps.one (show Kd.M (Kd.int .i64) _ _ _ 30 [.int .i64 30] from rfl) (Reps.one (show Kd.M (Kd.int .i64) _ _ _ 31 [.int .i64 31] from rfl) (Reps.none _ _)))))))))))))); intro v400 w6 ho7 hb hg_ hnew_; clear hg_ hnew_; (first | rw [← Ny399.out] at ho7 | (simp only [Int.reduceToNat] at ho7; rw [← Ny399.out] at ho7)); have n0_ := Aside0.mk (Kd.R_lower ho7 (below_size (by repeat (first | (with_reducible first | exact HB.out | apply below_alloc | apply pw_below_drewN | apply below_drew1) | exact HB.out)))); have n1_ := Aside0.mk (below_step (by repeat (first | (with_reducible first | exact HB.out | apply below_alloc | apply pw_below_drewN | apply below_drew1) | exact HB.out)) hb); clear HB; have HO401 := n0_; have HB := n1_; clear n0_ n1_; clear hb ho7) | (go_at_call 112; (with_reducible refine (warderref03_leap.calls a0 true _ A4.out).mono ?_); rintro e w' ⟨rfl, ⟨nd, rfl⟩⟩))
   go_ret
   exact ⟨by first | rfl | (simp [errW_none, errW_some] <;> rfl) | (simp [*, errW_none, errW_some] <;> rfl), by repeat (first | (with_reducible first | exact HB.out | apply below_alloc | apply pw_below_drewN | apply below_drew1) | exact HB.out)⟩
  ·replace c5 := Bool.eq_false_iff.mpr c5
   subst c5
   have H1 : (if 0 ≤ (wrap64 (a1 - 1)) then (if (wrap64 (a1 - 1)) < (y399.length : Int) then (some (rd y399 (wrap64 (a1 - 1)))) else (none)) else (none)) = some r := by rw [if_neg (show ¬ (false = true) by decide)] at H; exact H
   clear H
   have H := H1
   clear H1
   obtain ⟨ji8, hji8⟩ : ∃ j_ : Int, (wrap64 (a1 - 1)) = j_ := ⟨_, rfl⟩
   replace H : (if 0 ≤ (ji8) then (if (ji8) < (y399.length : Int) then (some (rd y399 (ji8))) else (none)) else (none)) = some r := by first | (rw [hji8] at H; exact H) | (simp only [hji8] at H ⊢; exact H)
   (try rw [hji8] at A4)
   have hji8w : (IntKind.i64.wrap (a1 - 1)) = ji8 := (i64_w _).trans hji8
   by_cases c9 : 0 ≤ (ji8)
   ·rw [if_pos c9] at H
    have c9b0 : decide (0 ≤ (ji8)) = true := decide_eq_true c9
    clear c9
    by_cases c10 : (ji8) < (y399.length : Int)
    ·rw [if_pos c10] at H
     have c10b0 : decide ((ji8) < (y399.length : Int)) = true := decide_eq_true c10
     clear c10
     obtain rfl := Option.some.inj H
     go_enter Tryz.func92, Tryz.ntmps92
     go_wp2_with (first | ((with_reducible refine gate_dst (N := 6) rfl ?_); refine Kd.R_lit (Kd.int .i64) _ 3 ?hg (N := 6) ?hd (xs := ([31, 28, 31, 30, 31, 30, 31, 31, 30, 31, 30, 31] : List Int)) (inner := [.int .i64 31, .int .i64 28, .int .i64 31, .int .i64 30, .int .i64 31, .int .i64 30, .int .i64 31, .int .i64 31, .int .i64 30, .int .i64 31, .int .i64 30, .int .i64 31]) (ok := fun _ => True) (okp := fun _ => True) ?hr ?hp (fun _ hk => hk) trivial (Below.refl _ _) (Nat.le_refl _) (by simp) ?_; (case hd => rfl); (case hg => rfl); (case hr => first | (go_simp; done) | (go_simp; rfl)); (case hp => exact (Reps.one (show Kd.M (Kd.int .i64) _ _ _ 31 [.int .i64 31] from rfl) (Reps.one (show Kd.M (Kd.int .i64) _ _ _ 28 [.int .i64 28] from rfl) (Reps.one (show Kd.M (Kd.int .i64) _ _ _ 31 [.int .i64 31] from rfl) (Reps.one (show Kd.M (Kd.int .i64) _ _ _ 30 [.int .i64 30] from rfl) (Reps.one (show Kd.M (Kd.int .i64) _ _ _ 31 [.int .i64 31] from rfl) (Reps.one (show Kd.M (Kd.int .i64) _ _ _ 30 [.int .i64 30] from rfl) (Reps.one (show Kd.M (Kd.int .i64) _ _ _ 31 [.int .i64 31] from rfl) (Reps.one (show Kd.M (Kd.int .i64) _ _ _ 31 [.int .i64 31] from rfl) (Reps.one (show Kd.M (Kd.int .i64) _ _ _ 30 [.int .i64 30] from rfl) (Reps.one (show Kd.M (Kd.int .i64) _ _ _ 31 [.int .i64 31] from rfl) (Reps.one (show Kd.M (Kd.int .i64) _ _ _ 30 [.int .i64 30] from rfl) (Reps.one (show Kd.M (Kd.int .i64) _ _ _ 31 [.int .i64 31] from rfl) (Reps.none _ _)))))))))))))); intro v400 w11 ho12 hb hg_ hnew_; clear hg_ hnew_; (first | rw [← Ny399.out] at ho12 | (simp only [Int.reduceToNat] at ho12; rw [← Ny399.out] at ho12)); have n0_ := Aside0.mk (Kd.R_lower ho12 (below_size (by repeat (first | (with_reducible first | exact HB.out | apply below_alloc | apply pw_below_drewN | apply below_drew1) | exact HB.out)))); have n1_ := Aside0.mk (below_step (by repeat (first | (with_reducible first | exact HB.out | apply below_alloc | apply pw_below_drewN | apply below_drew1) | exact HB.out)) hb); clear HB; have HO401 := n0_; have HB := n1_; clear n0_ n1_; clear hb ho12) | (go_at_call 112; (with_reducible refine (warderref03_leap.calls a0 false _ A4.out).mono ?_); rintro e w' ⟨rfl, ⟨nd, rfl⟩⟩; obtain ⟨Ao13, co13, eo13⟩ := Kd.R_slice HO401.out; subst eo13; have p403 : 0 ≤ ((ji8) : Int) := of_decide_eq_true (by first | (with_reducible assumption) | assumption); have q403 : (ji8) < (y399.length : Int) := of_decide_eq_true (by first | (with_reducible assumption) | assumption); obtain ⟨ad403, e403, hx403_0⟩ := Kd.at_int (Kd.R_reads' HO401.out).2.2 (ji8) p403 q403; cases e403; replace p403 := eq_true p403; replace q403 := eq_true q403))
     go_ret
     exact ⟨by first | rfl | (simp [errW_none, errW_some] <;> rfl) | (simp only [← hji8]; first | rfl | (simp [errW_none, errW_some] <;> rfl)) | (simp [*, errW_none, errW_some] <;> rfl), by repeat (first | (with_reducible first | exact HB.out | apply below_alloc | apply pw_below_drewN | apply below_drew1) | exact HB.out)⟩
    ·rw [if_neg c10] at H
     exact absurd H (by simp)
   ·rw [if_neg c9] at H
    exact absurd H (by simp)
 ·rw [if_neg c3] at H
  have c3b0 : (a1 == 2) = false := beq_eq_false_iff_ne.mpr c3
  have c3b1 : (a1 != 2) = true := bne_iff_ne.mpr c3
  obtain ⟨ji14, hji14⟩ : ∃ j_ : Int, (wrap64 (a1 - 1)) = j_ := ⟨_, rfl⟩
  replace H : (if 0 ≤ (ji14) then (if (ji14) < (y399.length : Int) then (some (rd y399 (ji14))) else (none)) else (none)) = some r := by first | (rw [hji14] at H; exact H) | (simp only [hji14] at H ⊢; exact H)
  have hji14w : (IntKind.i64.wrap (a1 - 1)) = ji14 := (i64_w _).trans hji14
  by_cases c15 : 0 ≤ (ji14)
  ·rw [if_pos c15] at H
   have c15b0 : decide (0 ≤ (ji14)) = true := decide_eq_true c15
   clear c15
   by_cases c16 : (ji14) < (y399.length : Int)
   ·rw [if_pos c16] at H
    have c16b0 : decide ((ji14) < (y399.length : Int)) = true := decide_eq_true c16
    clear c16
    obtain rfl := Option.some.inj H
    go_enter Tryz.func92, Tryz.ntmps92
    go_wp2_with (first | ((with_reducible refine gate_dst (N := 6) rfl ?_); refine Kd.R_lit (Kd.int .i64) _ 3 ?hg (N := 6) ?hd (xs := ([31, 28, 31, 30, 31, 30, 31, 31, 30, 31, 30, 31] : List Int)) (inner := [.int .i64 31, .int .i64 28, .int .i64 31, .int .i64 30, .int .i64 31, .int .i64 30, .int .i64 31, .int .i64 31, .int .i64 30, .int .i64 31, .int .i64 30, .int .i64 31]) (ok := fun _ => True) (okp := fun _ => True) ?hr ?hp (fun _ hk => hk) trivial (Below.refl _ _) (Nat.le_refl _) (by simp) ?_; (case hd => rfl); (case hg => rfl); (case hr => first | (go_simp; done) | (go_simp; rfl)); (case hp => exact (Reps.one (show Kd.M (Kd.int .i64) _ _ _ 31 [.int .i64 31] from rfl) (Reps.one (show Kd.M (Kd.int .i64) _ _ _ 28 [.int .i64 28] from rfl) (Reps.one (show Kd.M (Kd.int .i64) _ _ _ 31 [.int .i64 31] from rfl) (Reps.one (show Kd.M (Kd.int .i64) _ _ _ 30 [.int .i64 30] from rfl) (Reps.one (show Kd.M (Kd.int .i64) _ _ _ 31 [.int .i64 31] from rfl) (Reps.one (show Kd.M (Kd.int .i64) _ _ _ 30 [.int .i64 30] from rfl) (Reps.one (show Kd.M (Kd.int .i64) _ _ _ 31 [.int .i64 31] from rfl) (Reps.one (show Kd.M (Kd.int .i64) _ _ _ 31 [.int .i64 31] from rfl) (Reps.one (show Kd.M (Kd.int .i64) _ _ _ 30 [.int .i64 30] from rfl) (Reps.one (show Kd.M (Kd.int .i64) _ _ _ 31 [.int .i64 31] from rfl) (Reps.one (show Kd.M (Kd.int .i64) _ _ _ 30 [.int .i64 30] from rfl) (Reps.one (show Kd.M (Kd.int .i64) _ _ _ 31 [.int .i64 31] from rfl) (Reps.none _ _)))))))))))))); intro v400 w17 ho18 hb hg_ hnew_; clear hg_ hnew_; (first | rw [← Ny399.out] at ho18 | (simp only [Int.reduceToNat] at ho18; rw [← Ny399.out] at ho18)); have n0_ := Aside0.mk (Kd.R_lower ho18 (below_size (by repeat (first | (with_reducible first | exact HB.out | apply below_alloc | apply pw_below_drewN | apply below_drew1) | exact HB.out)))); have n1_ := Aside0.mk (below_step (by repeat (first | (with_reducible first | exact HB.out | apply below_alloc | apply pw_below_drewN | apply below_drew1) | exact HB.out)) hb); clear HB; have HO401 := n0_; have HB := n1_; clear n0_ n1_; clear hb ho18; obtain ⟨Ao19, co19, eo19⟩ := Kd.R_slice HO401.out; subst eo19; have p404 : 0 ≤ ((ji14) : Int) := of_decide_eq_true (by first | (with_reducible assumption) | assumption); have q404 : (ji14) < (y399.length : Int) := of_decide_eq_true (by first | (with_reducible assumption) | assumption); obtain ⟨ad404, e404, hx404_0⟩ := Kd.at_int (Kd.R_reads' HO401.out).2.2 (ji14) p404 q404; cases e404; replace p404 := eq_true p404; replace q404 := eq_true q404))
    go_ret
    exact ⟨by first | rfl | (simp [errW_none, errW_some] <;> rfl) | (simp only [← hji14]; first | rfl | (simp [errW_none, errW_some] <;> rfl)) | (simp [*, errW_none, errW_some] <;> rfl), by repeat (first | (with_reducible first | exact HB.out | apply below_alloc | apply pw_below_drewN | apply below_drew1) | exact HB.out)⟩
   ·rw [if_neg c16] at H
    exact absurd H (by simp)
  ·rw [if_neg c15] at H
   exact absurd H (by simp)
noncomputable def warderref03_two.f (a0 : Int) : Option (List Int) := some (([(wrap64 (48 + (wrap64 (Int.tdiv a0 10)))) % 256, (wrap64 (48 + (Int.tmod a0 10))) % 256] : List Int))
set_option maxHeartbeats 8000000 in
set_option maxRecDepth 100000 in
theorem warderref03_two.calls (a0 : Int) (r : List Int) (w : World) (h : warderref03_two.f a0 = some r) :
  Calls Tryz.prog 93 #[.int .i64 a0] w fun e w' => ∃ v0_ : Value, e = .returned (v0_) ∧ Kd.R (Kd.int .u8) 5 w' w.heap.size (fun _ => True) v0_ r ∧ Below w.heap.size w w' := by
 have HB := Aside0.mk (Below.refl w.heap.size w)
 have H : (some (([(wrap64 (48 + (wrap64 (Int.tdiv a0 10)))) % 256, (wrap64 (48 + (Int.tmod a0 10))) % 256] : List Int))) = some r := h
 clear h
 obtain ⟨y405, hy405⟩ : ∃ y_ : List Int, y_ = (([(wrap64 (48 + (wrap64 (Int.tdiv a0 10)))) % 256, (wrap64 (48 + (Int.tmod a0 10))) % 256] : List Int)) := ⟨_, rfl⟩
 replace H : (some y405) = some r := by first | (rw [hy405]; with_reducible exact H) | (have H2_ := (Option.bind_some _ _).symm.trans H; rw [hy405]; with_reducible exact H2_) | (have H2_ := (Option.bind_some _ _).symm.trans H; with_reducible exact H2_) | with_reducible exact H | (rw [hy405]; exact H) | exact H
 have Ny405 := Aside0.mk hy405
 clear hy405
 obtain rfl := Option.some.inj H
 go_enter Tryz.func93, Tryz.ntmps93
 go_wp2_with (first | ((with_reducible refine gate_dst (N := 11) rfl ?_); refine Kd.R_lit (Kd.int .u8) _ 5 ?hg (N := 11) ?hd (xs := ([(wrap64 (48 + (wrap64 (Int.tdiv a0 10)))) % 256, (wrap64 (48 + (Int.tmod a0 10))) % 256] : List Int)) (inner := [.int .u8 ((wrap64 (48 + (wrap64 (Int.tdiv a0 10)))) % 256), .int .u8 ((wrap64 (48 + (Int.tmod a0 10))) % 256)]) (ok := fun _ => True) (okp := fun _ => True) ?hr ?hp (fun _ hk => hk) trivial (Below.refl _ _) (Nat.le_refl _) (by simp) ?_; (case hd => rfl); (case hg => rfl); (case hr => first | (go_simp; done) | (go_simp; rfl)); (case hp => exact (Reps.one (show Kd.M (Kd.int .u8) _ _ _ ((wrap64 (48 + (wrap64 (Int.tdiv a0 10)))) % 256) [.int .u8 ((wrap64 (48 + (wrap64 (Int.tdiv a0 10)))) % 256)] from rfl) (Reps.one (show Kd.M (Kd.int .u8) _ _ _ ((wrap64 (48 + (Int.tmod a0 10))) % 256) [.int .u8 ((wrap64 (48 + (Int.tmod a0 10))) % 256)] from rfl) (Reps.none _ _)))); intro v406 w2 ho3 hb hg_ hnew_; clear hg_ hnew_; (first | rw [← Ny405.out] at ho3 | (simp only [Int.reduceToNat] at ho3; rw [← Ny405.out] at ho3)); have n0_ := Aside0.mk (Kd.R_lower ho3 (below_size (by repeat (first | (with_reducible first | exact HB.out | apply below_alloc | apply pw_below_drewN | apply below_drew1) | exact HB.out)))); have n1_ := Aside0.mk (below_step (by repeat (first | (with_reducible first | exact HB.out | apply below_alloc | apply pw_below_drewN | apply below_drew1) | exact HB.out)) hb); clear HB; have HO407 := n0_; have HB := n1_; clear n0_ n1_; clear hb ho3))
 go_ret
 exact ⟨_, by first | rfl | (simp [errW_none, errW_some] <;> rfl) | (simp [*, errW_none, errW_some] <;> rfl), by (with_reducible repeat (first | apply Kd.R_alloc | apply Kd.R_drewN | apply Kd.R_drew)); exact HO407.out, by repeat (first | (with_reducible first | exact HB.out | apply below_alloc | apply pw_below_drewN | apply below_drew1) | exact HB.out)⟩
noncomputable def warderref09_Octets.f (l0 : List Int) : Option (Int × List Int × (List (S44))) := (some (([] : List Int) : List Int)).bind fun y464 => (if y464.length + l0.length < 140737488355328 then (some (4, (y464 ++ l0), ([] : List (S44)))) else (none))
set_option maxHeartbeats 8000000 in
set_option maxRecDepth 100000 in
theorem warderref09_Octets.calls (A0 : Option Addr) (c0 : Nat) (l0 : List Int) (r1 : Int) (r2 : List Int) (r3 : List (S44)) (w : World) (hr0 : Kd.C (Kd.int .u8) w A0 l0.length l0) (hc0 : l0.length ≤ c0) (h : warderref09_Octets.f l0 = some (r1, r2, r3)) :
  Calls Tryz.prog 31 #[.slice A0 l0.length c0] w fun e w' => ∃ v1_ v2_ : Value, e = .returned (.agg #[.int .u8 r1, v1_, v2_]) ∧ Kd.R (Kd.int .u8) 5 w' w.heap.size (fun _ => True) v1_ r2 ∧ Kd.R k44 44 w' w.heap.size (fun k_ => some k_ ≠ (v1_ : Value).ownBlock) v2_ r3 ∧ Below w.heap.size w w' := by
 have hu44 := Tryz.underlying44
 have HR0 := Aside0.mk hr0
 have HC0 := Aside0.mk hc0
 clear hr0 hc0
 have HB := Aside0.mk (Below.refl w.heap.size w)
 have H : ((some (([] : List Int) : List Int)).bind fun y464 => (if y464.length + l0.length < 140737488355328 then (some (4, (y464 ++ l0), ([] : List (S44)))) else (none))) = some (r1, r2, r3) := h
 clear h
 obtain ⟨y464, hy464⟩ : ∃ y_ : List Int, y_ = (([] : List Int)) := ⟨_, rfl⟩
 replace H : (if y464.length + l0.length < 140737488355328 then (some (4, (y464 ++ l0), ([] : List (S44)))) else (none)) = some (r1, r2, r3) := by first | (rw [hy464]; with_reducible exact H) | (have H2_ := (Option.bind_some _ _).symm.trans H; rw [hy464]; with_reducible exact H2_) | (have H2_ := (Option.bind_some _ _).symm.trans H; with_reducible exact H2_) | with_reducible exact H | (rw [hy464]; exact H) | exact H
 have Ny464 := Aside0.mk hy464
 clear hy464
 by_cases c2 : y464.length + l0.length < 140737488355328
 ·rw [if_pos c2] at H
  have LMc2 := Aside0.mk c2
  clear c2
  obtain ⟨y467, hy467⟩ : ∃ y_ : List Int, y_ = (y464 ++ l0) := ⟨_, rfl⟩
  replace H : (some (4, y467, ([] : List (S44)))) = some (r1, r2, r3) := by first | (rw [hy467]; with_reducible exact H) | (have H2_ := (Option.bind_some _ _).symm.trans H; rw [hy467]; with_reducible exact H2_) | (have H2_ := (Option.bind_some _ _).symm.trans H; with_reducible exact H2_) | with_reducible exact H | (rw [hy467]; exact H) | exact H
  have Ny467 := Aside0.mk hy467
  clear hy467
  simp only [Option.some.injEq, Prod.mk.injEq] at H
  obtain ⟨rfl, rfl, rfl⟩ := H
  go_enter Tryz.func31, Tryz.ntmps31
  go_wp2_with (first | ((with_reducible refine gate_dst (N := 2) rfl ?_); refine box_event ?hg (N := 2) ?hd (cs := #[.int .u8 0, .slice none 0 0, .slice none 0 0]) (t := 44) ?hr ?_; (case hd => rfl); (case hg => rfl); (case hr => first | (go_simp; done) | (go_simp; rfl)); intro gb463 hg w3 hbox hb; have n0_ := Aside0.mk (below_step (by repeat (first | (with_reducible first | exact HB.out | apply below_alloc | apply pw_below_drewN | apply below_drew1) | exact HB.out)) hb); have n1_ := Aside0.mk (hbox); have n2_ := Aside0.mk ((by rw [hg]; exact (below_size (by repeat (first | (with_reducible first | exact HB.out | apply below_alloc | apply pw_below_drewN | apply below_drew1) | exact HB.out))) : w.heap.size ≤ gb463)); have n3_ := Aside0.mk ((by rw [hg]; exact (below_size (by repeat (first | (with_reducible first | exact HB.out | apply below_alloc | apply pw_below_drewN | apply below_drew1) | exact HB.out))) : w.heap.size ≤ gb463)); clear HB; have HB := n0_; have BK463 := n1_; have GW463 := n2_; have GE463 := n3_; clear n0_ n1_ n2_ n3_; clear hb hbox hg) | ((with_reducible refine gate_dst (N := 3) rfl ?_); refine Kd.R_lit (Kd.int .u8) _ 5 ?hg (N := 3) ?hd (xs := ([] : List Int)) (inner := []) (ok := fun _ => True) (okp := fun _ => True) ?hr ?hp (fun _ hk => hk) trivial (Below.refl _ _) (Nat.le_refl _) (by simp) ?_; (case hd => rfl); (case hg => rfl); (case hr => first | (go_simp; done) | (go_simp; rfl)); (case hp => exact (Reps.none _ _)); intro v465 w4 ho5 hb hg_ hnew_; clear hg_ hnew_; (first | rw [← Ny464.out] at ho5 | (simp only [Int.reduceToNat] at ho5; rw [← Ny464.out] at ho5)); have n0_ := Aside0.mk (Kd.R_lower ho5 (below_size (by repeat (first | (with_reducible first | exact HB.out | apply below_alloc | apply pw_below_drewN | apply below_drew1 | refine below_set ?_ GE463.out) | exact HB.out)))); have n1_ := Aside0.mk (blk_below (g := gb463) (o := .cells #[.int .u8 0, .slice none 0 0, .slice none 0 0] 44 (0, 0)) (by (with_reducible repeat (first | refine blk_drewN ?_ _ | refine blk_drew ?_ | refine blk_alloc ?_ _)); exact BK463.out) hb); have n2_ := Aside0.mk (below_step (by repeat (first | (with_reducible first | exact HB.out | apply below_alloc | apply pw_below_drewN | apply below_drew1 | refine below_set ?_ GE463.out) | exact HB.out)) hb); clear BK463; clear HB; have HO466 := n0_; have BK463 := n1_; have HB := n2_; clear n0_ n1_ n2_; clear hb ho5) | ((with_reducible refine gate_builtin (b := .append) (xs := #[.tmp 3, .tmp 4]) rfl ?_); at_builtin; refine Kd.R_append_rows (Kd.int .u8) (w0 := w) w.heap.size rfl (.tmp 3) (.tmp 4) 25 5 (.int .u8 0) 1 rfl Tryz.underlying25 info5 rfl (by decide) (by omega) v465 y464 l0 _ _ _ (fun _ => True) (fun _ => False) rfl rfl ?aO ?aR (fun _ _ h => h) (fun _ h => h.elim) ?aF ?aB ?aS ?aL ?_; (case aR => repeat (first | exact (Kd.C_below HR0.out HB.out) | (with_reducible refine Kd.C_alloc ?_ _) | (with_reducible refine Kd.C_drewN ?_ _) | (with_reducible refine Kd.C_drew ?_))); (case aB => exact (by repeat (first | (with_reducible first | exact HB.out | apply below_alloc | apply pw_below_drewN | apply below_drew1 | refine below_set ?_ GE463.out) | exact HB.out))); (case aF => exact (fun _ _ => trivial)); (case aO => exact (by (with_reducible repeat (first | apply Kd.R_alloc | apply Kd.R_drewN | apply Kd.R_drew)); exact HO466.out)); (case aS => exact (below_size (by repeat (first | (with_reducible first | exact HB.out | apply below_alloc | apply pw_below_drewN | apply below_drew1 | refine below_set ?_ GE463.out) | exact HB.out)))); (case aL => have := LMc2.out; omega); intro v468 w6 ho hb hg hat; rw [← Ny467.out] at ho; have n0_ := Aside0.mk (blk_grown (g := gb463) (o := .cells #[.int .u8 0, .slice none 0 0, .slice none 0 0] 44 (0, 0)) (by (with_reducible repeat (first | refine blk_drewN ?_ _ | refine blk_drew ?_ | refine blk_alloc ?_ _)); exact BK463.out) hg (Kd.R_ne HO466.out BK463.out (by decide))); have n1_ := Aside0.mk (hb); have n2_ := Aside0.mk (ho); clear BK463; clear HB; clear HO466; have BK463 := n0_; have HB := n1_; have HO469 := n2_; clear n0_ n1_ n2_; clear ho hb hg hat; obtain ⟨Ao7, co7, eo7⟩ := Kd.R_slice HO469.out; subst eo7; have hcz8_0 : w6.cell? ⟨gb463, 0, none⟩ = some (.int .u8 0) := (blk_cell BK463.out 0).trans rfl; have hcz8_1 : w6.cell? ⟨gb463, 1, none⟩ = some (.slice none 0 0) := (blk_cell BK463.out 1).trans rfl; have hcz8_2 : w6.cell? ⟨gb463, 2, none⟩ = some (.slice none 0 0) := (blk_cell BK463.out 2).trans rfl; have hfz8_0 := blk_frozen BK463.out 0; have hfz8_1 := blk_frozen BK463.out 1; have hfz8_2 := blk_frozen BK463.out 2))
  refine bodyPost_ret (results_cell_row rfl _ _ gb463 44 #[.int .u8 4, .slice Ao7 y467.length co7, .slice none 0 0] (0, 0) _ rfl (by (with_reducible repeat (first | refine blk_drewN ?_ _ | refine blk_drew ?_ | refine blk_alloc ?_ _)); refine blk_put (cs := #[.int .u8 4, .slice Ao7 y467.length co7, .slice none 0 0]) ?_ 2 _ rfl; (with_reducible repeat (first | refine blk_drewN ?_ _ | refine blk_drew ?_ | refine blk_alloc ?_ _)); refine blk_put (cs := #[.int .u8 4, .slice none 0 0, .slice none 0 0]) ?_ 1 _ rfl; (with_reducible repeat (first | refine blk_drewN ?_ _ | refine blk_drew ?_ | refine blk_alloc ?_ _)); refine blk_put (cs := #[.int .u8 0, .slice none 0 0, .slice none 0 0]) ?_ 0 _ rfl; (with_reducible repeat (first | refine blk_drewN ?_ _ | refine blk_drew ?_ | refine blk_alloc ?_ _)); exact BK463.out) Tryz.underlying44 rfl (by kernel_rfl)) rfl ?_
  exact ⟨_, _, by first | rfl | (simp [errW_none, errW_some] <;> rfl) | (simp [*, errW_none, errW_some] <;> rfl), by (with_reducible repeat (first | apply Kd.R_alloc | apply Kd.R_drewN | apply Kd.R_drew)); exact Kd.R_mono (Kd.R_far (p := ⟨gb463, 2, none⟩) (Kd.R_far (p := ⟨gb463, 1, none⟩) (Kd.R_far (p := ⟨gb463, 0, none⟩) (Kd.R_types HO469.out BK463.out (by decide)) (fun _ hk => hk.2) (.int .u8 4)) (fun _ hk => hk.2) (.slice Ao7 y467.length co7)) (fun _ hk => hk.2) (.slice none 0 0)) (fun _ hk => trivial), by first | exact Kd.R_nil _ _ _ _ _ | exact Kd.N_nil _ _ _ _ _ | exact Kd.V_nil _ _ _ _ _ | exact Kd.Q_nil _ _ _ _ _ | exact Kd.S_nil _ _ _ _ _, by repeat (first | (with_reducible first | exact HB.out | apply below_alloc | apply pw_below_drewN | apply below_drew1 | refine below_set ?_ GE463.out) | exact HB.out)⟩
 ·rw [if_neg c2] at H
  exact absurd H (by simp)
end Go.Proofs.YtncanijjnhkgbaaGreatDoor.PMsgsPut
namespace Go.Proofs.YtncanijjnhkgbaaGreatDoor.PMsgsPut
open Go.RowKit Go.Proofs.YtncanijjnhkgbaaGreatDoorW.PrintWords Go.Proofs.YtncanijjnhkgbaaGreatDoorW.PrintLast Go.Proofs.YtncanijjnhkgbaaGreatDoorW.PrintMore
theorem leaps_some (y : Int) (h1 : 1 ≤ y) (h2 : y ≤ 10001) : warderref03_leaps.f y = some (y / 4 - y / 100 + y / 400) := by
 unfold warderref03_leaps.f
 rw [tdiv_nn 4 (by omega), tdiv_nn 100 (by omega), tdiv_nn 400 (by omega), wrap_id (x := y / 4) (by omega) (by omega), wrap_id (x := y / 100) (by omega) (by omega), wrap_id (x := y / 400) (by omega) (by omega), wrap_id (x := y / 4 - y / 100) (by omega) (by omega), wrap_id (by omega) (by omega)]
theorem days_some (y : Int) (h1 : 1950 ≤ y) (h2 : y ≤ 10000) : warderref03_days.f y = some (daysO y) := by
 unfold warderref03_days.f daysO
 rw [wrap_id (x := y - 1) (by omega) (by omega), leaps_some (y - 1) (by omega) (by omega), leaps_some 1969 (by decide) (by decide)]
 simp only [Option.bind_some]
 rw [wrap_id (x := y - 1970) (by omega) (by omega), wrap_id (x := 365 * (y - 1970)) (by omega) (by omega), wrap_id (x := 365 * (y - 1970) + ((y - 1) / 4 - (y - 1) / 100 + (y - 1) / 400)) (by omega) (by omega), wrap_id (by omega) (by omega)]
 rfl
theorem leap_some (y : Int) (h : 0 ≤ y) : warderref03_leap.f y = some (leapO y == 1) := by
 unfold warderref03_leap.f leapO
 rw [tmod_nn 4 h, tmod_nn 100 h, tmod_nn 400 h]
 by_cases h4 : y % 4 = 0
 ·rw [if_pos h4]
  by_cases h100 : y % 100 = 0
  ·rw [if_pos h100]
   by_cases h400 : y % 400 = 0
   ·rw [if_pos ⟨h4, .inr h400⟩, h400]; rfl
   ·rw [if_neg (by omega), beq_eq_false_iff_ne.2 h400]; rfl
  ·rw [if_neg h100, if_pos ⟨h4, .inl h100⟩]; rfl
 ·rw [if_neg h4, if_neg (fun h => h4 h.1)]; rfl
theorem month_some (y m : Int) (h : 0 ≤ y) (h1 : 1 ≤ m) (h2 : m ≤ 12) : warderref03_month.f y m = some (monL y m) := by
 unfold warderref03_month.f
 rw [wrap_id (x := m - 1) (by omega) (by omega)]
 simp only [Option.bind_some]
 by_cases hm : m = 2
 ·subst hm
  rw [if_pos rfl, leap_some y h]
  simp only [Option.bind_some]
  have hl := leapO_01 y
  unfold monL
  rw [if_pos rfl]
  have : leapO y = 0 ∨ leapO y = 1 := by omega
  rcases this with h | h <;> rw [h] <;> rfl
 ·rw [if_neg hm]
  unfold monL
  rw [if_neg hm]
  have : m = 1 ∨ m = 3 ∨ m = 4 ∨ m = 5 ∨ m = 6 ∨ m = 7 ∨ m = 8 ∨ m = 9 ∨ m = 10 ∨ m = 11 ∨ m = 12 := by omega
  rcases this with rfl | rfl | rfl | rfl | rfl | rfl | rfl | rfl | rfl | rfl | rfl <;> rfl
theorem two_calls (x : Int) (h1 : 0 ≤ x) (h2 : x < 100) (W : World) :
  Calls Tryz.prog 93 #[.int .i64 x] W fun e w' => ∃ ad c, e = .returned (.slice (some ad) 2 c) ∧ Kd.R (Kd.int .u8) 5 w' W.heap.size (fun _ => True) (.slice (some ad) 2 c) [x / 10 + 48, x % 10 + 48] ∧ Below W.heap.size W w' := by
 have hf : warderref03_two.f x = some [x / 10 + 48, x % 10 + 48] := by
  unfold warderref03_two.f
  rw [tdiv_nn 10 h1, tmod_nn 10 h1, wrap_id (x := x / 10) (by omega) (by omega), wrap_id (x := 48 + x / 10) (by omega) (by omega), wrap_id (x := 48 + x % 10) (by omega) (by omega)]
  rw [show (48 + x / 10) % 256 = x / 10 + 48 by omega, show (48 + x % 10) % 256 = x % 10 + 48 by omega]
 refine (warderref03_two.calls x _ W hf).mono ?_
 rintro e w' ⟨v, rfl, hR, hb⟩
 obtain ⟨ad, c, rfl⟩ := Kd.R_slice1 hR (by simp)
 exact ⟨ad, c, rfl, hR, hb⟩
theorem cum_lo (y m d : Int) (h1 : 1 ≤ m) (h2 : m ≤ 12) (h : 1 ≤ d) : 0 ≤ cumO y m + d - 1 := by
 have h3 := cumO_le y (a := 1) (b := m) (by omega) h1 (by omega)
 have h4 : cumO y 1 = 0 := rfl
 omega
theorem cum_hi (y m d : Int) (h1 : 1 ≤ m) (h2 : m ≤ 12) (h : d ≤ monL y m) : cumO y m + d - 1 < 365 + leapO y := by
 have h3 := cumO_succ y m h1 h2
 have h4 := cumO_le y (a := m + 1) (b := 13) (by omega) (by omega) (by omega)
 have h5 : cumO y 13 = 365 + leapO y := by unfold cumO; rw [if_neg (by decide), if_neg (by decide)]; omega
 omega
theorem tmod_gt (s : Int) : -86400 < Int.tmod s 86400 ∧ Int.tmod s 86400 < 86400 := by
 refine ⟨?_, Int.tmod_lt_of_pos s (by decide)⟩
 rcases Int.le_total 0 s with h | h
 ·have := Int.tmod_nonneg 86400 h; omega
 ·have := Int.lt_tmod_of_pos s (show (0 : Int) < 86400 by decide); omega
theorem put_facts (s : Int) (h1 : -631152000 ≤ s) (h2 : s ≤ 253402300799) : ∃ q r day Y M d : Int,
  (-86400 < q ∧ q < 86400) ∧ (0 ≤ r ∧ r < 86400) ∧ (-10000 ≤ day ∧ day ≤ 3000000) ∧ (1950 ≤ Y ∧ Y ≤ 9999) ∧ (1 ≤ M ∧ M ≤ 12) ∧ (1 ≤ d ∧ d ≤ 31) ∧
  Int.tmod s 86400 = q ∧ Int.tmod (q + 86400) 86400 = r ∧ Int.tdiv (s - r) 86400 = day ∧ daysO Y + cumO Y M + d - 1 = day ∧ d ≤ monL Y M ∧ timeT s = (if Y < 2050 then 23 else 24) ∧
  timeL s = [Y / 1000 + 48, Y / 100 % 10 + 48, Y % 100 / 10 + 48, Y % 100 % 10 + 48, M / 10 + 48, M % 10 + 48, d / 10 + 48, d % 10 + 48, r / 3600 / 10 + 48, r / 3600 % 10 + 48, r / 60 % 60 / 10 + 48, r / 60 % 60 % 10 + 48, r % 60 / 10 + 48, r % 60 % 10 + 48, 90] := by
 obtain ⟨D, hD⟩ : ∃ D, D = (s + 631152000) / 86400 - 7305 + 719468 := ⟨_, rfl⟩
 obtain ⟨y1, y2, m1, m2, d1, d2⟩ := civ_bounds D (by omega) (by omega)
 obtain ⟨hday, hlen⟩ := civ_days D (by omega) (by omega)
 have hT : timeT s = if civY D < 2050 then 23 else 24 := by rw [hD]; rfl
 obtain ⟨r, hr⟩ : ∃ r, r = (s + 631152000) % 86400 := ⟨_, rfl⟩
 have hL : timeL s = [civY D / 1000 + 48, civY D / 100 % 10 + 48, civY D % 100 / 10 + 48, civY D % 100 % 10 + 48, civM D / 10 + 48, civM D % 10 + 48, civD D / 10 + 48, civD D % 10 + 48, r / 3600 / 10 + 48, r / 3600 % 10 + 48, r / 60 % 60 / 10 + 48, r / 60 % 60 % 10 + 48, r % 60 / 10 + 48, r % 60 % 10 + 48, 90] := by rw [hD, hr]; rfl
 refine ⟨Int.tmod s 86400, r, D - 719468, civY D, civM D, civD D, tmod_gt s, by omega, by omega, ⟨y1, y2⟩, ⟨m1, m2⟩, ⟨d1, d2⟩, rfl, ?_, ?_, hday, hlen, hT, hL⟩
 ·clear hT hL hday hlen y1 y2 m1 m2 d1 d2 hD
  have h3 := Int.tmod_add_mul_tdiv s 86400
  have h4 := tmod_gt s
  rw [tmod_nn _ (by omega)]
  generalize Int.tmod s 86400 = q at *
  omega
 ·clear hT hL hday hlen y1 y2 m1 m2 d1 d2
  rw [show s - r = (D - 719468) * 86400 by omega]
  exact Int.mul_tdiv_cancel _ (by decide)
theorem cumO_bd (y m : Int) (h1 : 1 ≤ m) (h2 : m ≤ 12) : 0 ≤ cumO y m ∧ cumO y m ≤ 335 := by
 have := leapO_01 y
 unfold cumO
 split
 ·omega
 ·split <;> omega
theorem days_bd (y : Int) (h1 : 1950 ≤ y) (h2 : y ≤ 10000) : -8000 ≤ daysO y ∧ daysO y ≤ 3000000 := by
 unfold daysO
 omega
end Go.Proofs.YtncanijjnhkgbaaGreatDoor.PMsgsPut
