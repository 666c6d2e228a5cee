/- A part of the proof of the law MsgsUnlike, put together by a program of this seat's prover (wip/pack.py): its own texts. No condition. -/
import Derived.Test.YtncanijjnhkgbaaDoorA2
set_option linter.unusedVariables false
set_option linter.unusedSimpArgs false
namespace Go.Proofs.YtncanijjnhkgbaaDoor.PMsgsUnlike
open Go.RowKit Go.Proofs.YtncanijjnhkgbaaDoorW.PrintWords Go.Proofs.YtncanijjnhkgbaaDoorW.PrintLast Go.Proofs.YtncanijjnhkgbaaDoorW.PrintMore
attribute [local go_sem] max2_int min2_int max_two min_two max_three min_three max_four min_four
set_option linter.unusedVariables false
set_option linter.unusedSimpArgs false
mutual
noncomputable def nodes_right.j0 : Nat → Int → List Int → Int → Int → Bool → Option (Bool)
 | 0, _, _, _, _, _ => none
 | k + 1, x0, x1, x5, x7, x29 => if x29 = true then ((texts_Time.f x0 x1).bind fun bt248 => (some (bt248.2 == 0))) else (if x7 = 5 then (none) else (if x7 = 12 then (nodes_right.j1 k x0 x1 x5 x7 (x7 == 12)) else (if x7 = 19 then (nodes_right.j1 k x0 x1 x5 x7 (x7 == 19)) else (if x7 = 22 then (nodes_right.j1 k x0 x1 x5 x7 (x7 == 22)) else (nodes_right.j1 k x0 x1 x5 x7 (x7 == 27))))))
noncomputable def nodes_right.j1 : Nat → Int → List Int → Int → Int → Bool → Option (Bool)
 | 0, _, _, _, _, _ => none
 | k + 1, x0, x1, x5, x7, x43 => if x43 = true then ((texts_Right.f x0 x1).bind fun t250 => (some t250)) else (if x7 = 3 then (none) else (some (x5 == 0)))
end
noncomputable def nodes_right.f (k : Nat) (a0 : Int) (l1 : List Int) : Option (Bool) := if a0 = 1 then ((ints_Bool.f l1).bind fun bt244 => (some (bt244.2 == 0))) else (if a0 = 2 then ((ints_Int.f l1).bind fun bt246 => (some (bt246.2 == 0))) else (if a0 = 6 then (none) else (if a0 = 23 then (nodes_right.j0 k a0 l1 0 a0 (a0 == 23)) else (nodes_right.j0 k a0 l1 0 a0 (a0 == 24)))))
theorem nodes_right.mono_l : ∀ k, (∀ y0 y1 y2 y3 y4, LeO (nodes_right.j0 k y0 y1 y2 y3 y4) (nodes_right.j0 (k + 1) y0 y1 y2 y3 y4)) ∧ (∀ y0 y1 y2 y3 y4, LeO (nodes_right.j1 k y0 y1 y2 y3 y4) (nodes_right.j1 (k + 1) y0 y1 y2 y3 y4))
 | 0 => ⟨fun _ _ _ _ _ r h => by simp [nodes_right.j0] at h, fun _ _ _ _ _ r h => by simp [nodes_right.j1] at h⟩
 | k + 1 => by
  obtain ⟨ih0, ih1⟩ := nodes_right.mono_l k
  refine ⟨?_, ?_⟩
  ·intro y0 y1 y2 y3 y4
   unfold nodes_right.j0
   repeat' first
   | (with_reducible exact ih0 _ _ _ _ _)
   | (with_reducible exact ih1 _ _ _ _ _)
   | (with_reducible exact LeO.refl _)
   | (with_reducible exact LeO.none _)
   | (with_reducible refine LeO.ite ?_ ?_)
   | (with_reducible refine LeO.bind ?_ (fun _ => ?_))
   | exact ih0 _ _ _ _ _
   | exact ih1 _ _ _ _ _
   | exact LeO.none _
   | refine LeO.ite ?_ ?_
   | refine LeO.bind ?_ (fun _ => ?_)
  ·intro y0 y1 y2 y3 y4
   unfold nodes_right.j1
   repeat' first
   | (with_reducible exact ih0 _ _ _ _ _)
   | (with_reducible exact ih1 _ _ _ _ _)
   | (with_reducible exact LeO.refl _)
   | (with_reducible exact LeO.none _)
   | (with_reducible refine LeO.ite ?_ ?_)
   | (with_reducible refine LeO.bind ?_ (fun _ => ?_))
   | exact ih0 _ _ _ _ _
   | exact ih1 _ _ _ _ _
   | exact LeO.none _
   | refine LeO.ite ?_ ?_
   | refine LeO.bind ?_ (fun _ => ?_)
theorem nodes_right.mono : ∀ a0 a1 k, LeO (nodes_right.f k a0 a1) (nodes_right.f (k + 1) a0 a1) := by
 intro a0 a1 k
 obtain ⟨ih0, ih1⟩ := nodes_right.mono_l k
 unfold nodes_right.f
 repeat' first
   | (with_reducible exact ih0 _ _ _ _ _)
   | (with_reducible exact ih1 _ _ _ _ _)
   | (with_reducible exact LeO.refl _)
   | (with_reducible exact LeO.none _)
   | (with_reducible refine LeO.ite ?_ ?_)
   | (with_reducible refine LeO.bind ?_ (fun _ => ?_))
   | exact ih0 _ _ _ _ _
   | exact ih1 _ _ _ _ _
   | exact LeO.none _
   | refine LeO.ite ?_ ?_
   | refine LeO.bind ?_ (fun _ => ?_)
set_option maxHeartbeats 8000000 in
set_option maxRecDepth 100000 in
theorem nodes_right.calls (k : Nat) (a0 : Int) (A1 : Option Addr) (c1 : Nat) (l1 : List Int) (r : Bool) (w : World) (hr1 : Kd.C (Kd.int .u8) w A1 l1.length l1) (hc1 : l1.length ≤ c1) (h : nodes_right.f k a0 l1 = some r) :
  Calls Tryd.prog 39 #[.int .u8 a0, .slice A1 l1.length c1] w fun e w' => e = .returned (.bool r) ∧ Below w.heap.size w w' := by
 have HR1 := Aside0.mk hr1
 have HC1 := Aside0.mk hc1
 clear hr1 hc1
 have HB := Aside0.mk (Below.refl w.heap.size w)
 have H : (if a0 = 1 then ((ints_Bool.f l1).bind fun bt244 => (some (bt244.2 == 0))) else (if a0 = 2 then ((ints_Int.f l1).bind fun bt246 => (some (bt246.2 == 0))) else (if a0 = 6 then (none) else (if a0 = 23 then (nodes_right.j0 k a0 l1 0 a0 (a0 == 23)) else (nodes_right.j0 k a0 l1 0 a0 (a0 == 24)))))) = some r := h
 clear h
 by_cases c3 : a0 = 1
 ·rw [if_pos c3] at H
  have c3b0 : (a0 == 1) = true := beq_iff_eq.mpr c3
  have c3b1 : (a0 != 1) = false := bne_eq_false_iff_eq.mpr c3
  clear c3
  replace H := Option.bind_eq_some_iff.mp H
  obtain ⟨⟨t244, t245⟩, A40, H⟩ := H
  replace H : (some (t245 == 0)) = some r := H
  have A4 := Aside0.mk A40
  clear A40
  obtain rfl := Option.some.inj H
  go_enter Tryd.func39, Tryd.ntmps39
  go_wp2_with (first | ((with_reducible refine gate_callee (f := 55) rfl ?_); refine goesL_ (some 12) rfl rfl Tryd.func55 (by kernel_rfl) rfl #[.slice A1 l1.length c1] rfl (by (try simp only [List.map_toArray, List.map_cons, List.map_nil]); first | done | rfl | (simp only [List.length_drop, List.length_take]; rfl)) ?_; (with_reducible refine (ints_Bool.calls _ _ l1 t244 t245 _ ?side1 ?side2 A4.out).mono ?_); (case side1 => repeat (first | exact HR1.out | (with_reducible refine Kd.C_alloc ?_ _) | (with_reducible refine Kd.C_drewN ?_ _) | (with_reducible refine Kd.C_drew ?_))); (case side2 => exact HC1.out); rintro e w5 ⟨rfl, hb⟩; refine ⟨_, rfl, ?_⟩; have n0_ := Aside0.mk (below_step (by repeat (first | (with_reducible first | exact HB.out | apply below_alloc | apply pw_below_drewN | apply below_drew1) | exact HB.out)) hb); clear HB; have HB := n0_; clear n0_; (try clear hb); (try clear hb2); (try clear hk); (try clear hi)))
  go_ret
  exact ⟨by first | rfl | (simp [errW_none, errW_some] <;> rfl) | (simp [*, errW_none, errW_some] <;> rfl), by repeat (first | (with_reducible first | exact HB.out | apply below_alloc | apply pw_below_drewN | apply below_drew1) | exact HB.out)⟩
 ·rw [if_neg c3] at H
  have c3b0 : (a0 == 1) = false := beq_eq_false_iff_ne.mpr c3
  have c3b1 : (a0 != 1) = true := bne_iff_ne.mpr c3
  by_cases c6 : a0 = 2
  ·rw [if_pos c6] at H
   have c6b0 : (a0 == 2) = true := beq_iff_eq.mpr c6
   have c6b1 : (a0 != 2) = false := bne_eq_false_iff_eq.mpr c6
   clear c6
   replace H := Option.bind_eq_some_iff.mp H
   obtain ⟨⟨t246, t247⟩, A70, H⟩ := H
   replace H : (some (t247 == 0)) = some r := H
   have A7 := Aside0.mk A70
   clear A70
   obtain rfl := Option.some.inj H
   go_enter Tryd.func39, Tryd.ntmps39
   go_wp2_with (first | ((with_reducible refine gate_callee (f := 56) rfl ?_); refine goesL_ (some 19) rfl rfl Tryd.func56 (by kernel_rfl) rfl #[.slice A1 l1.length c1] rfl (by (try simp only [List.map_toArray, List.map_cons, List.map_nil]); first | done | rfl | (simp only [List.length_drop, List.length_take]; rfl)) ?_; (with_reducible refine (ints_Int.calls _ _ l1 t246 t247 _ ?side1 ?side2 A7.out).mono ?_); (case side1 => repeat (first | exact HR1.out | (with_reducible refine Kd.C_alloc ?_ _) | (with_reducible refine Kd.C_drewN ?_ _) | (with_reducible refine Kd.C_drew ?_))); (case side2 => exact HC1.out); rintro e w8 ⟨rfl, hb⟩; refine ⟨_, rfl, ?_⟩; have n0_ := Aside0.mk (below_step (by repeat (first | (with_reducible first | exact HB.out | apply below_alloc | apply pw_below_drewN | apply below_drew1) | exact HB.out)) hb); clear HB; have HB := n0_; clear n0_; (try clear hb); (try clear hb2); (try clear hk); (try clear hi)))
   go_ret
   exact ⟨by first | rfl | (simp [errW_none, errW_some] <;> rfl) | (simp [*, errW_none, errW_some] <;> rfl), by repeat (first | (with_reducible first | exact HB.out | apply below_alloc | apply pw_below_drewN | apply below_drew1) | exact HB.out)⟩
  ·rw [if_neg c6] at H
   have c6b0 : (a0 == 2) = false := beq_eq_false_iff_ne.mpr c6
   have c6b1 : (a0 != 2) = true := bne_iff_ne.mpr c6
   by_cases c9 : a0 = 6
   ·rw [if_pos c9] at H
    exact absurd H (by simp)
   ·rw [if_neg c9] at H
    have c9b0 : (a0 == 6) = false := beq_eq_false_iff_ne.mpr c9
    have c9b1 : (a0 != 6) = true := bne_iff_ne.mpr c9
    have HC10 := Aside0.mk H
    clear H
    go_enter Tryd.func39, Tryd.ntmps39
    go_upto_if 29 with (fail)
    go_cut [29] (fun v29 wc => ∃ (kq : Nat) (x29_9 : Bool), v29 = .bool x29_9 ∧ Aside0 (nodes_right.j0 kq a0 l1 0 a0 x29_9 = some r) ∧ Aside0 (kq ≤ k) ∧ Aside0 (Below w.heap.size w wc))
    case first =>
     have H := HC10.out
     clear HC10
     by_cases c11 : a0 = 23
     ·rw [if_pos c11] at H
      have c11b0 : (a0 == 23) = true := beq_iff_eq.mpr c11
      have c11b1 : (a0 != 23) = false := bne_eq_false_iff_eq.mpr c11
      clear c11
      (first | rw [c11b0] | (simp only [i64_w, i32_w]; rw [c11b0]) | skip)
      have H' := Aside0.mk H
      clear H
      go_wp2
      go_meet
      case rel => exact ⟨_, ((a0 == 23)), (by first | rfl | (simp; done) | (simp [*]; done)), H', ⟨by first | omega | exact Nat.le_refl _⟩, ⟨by repeat (first | (with_reducible first | exact HB.out | apply below_alloc | apply pw_below_drewN | apply below_drew1) | exact HB.out)⟩⟩
     ·rw [if_neg c11] at H
      have c11b0 : (a0 == 23) = false := beq_eq_false_iff_ne.mpr c11
      have c11b1 : (a0 != 23) = true := bne_iff_ne.mpr c11
      (first | rw [c11b0] | (simp only [i64_w, i32_w]; rw [c11b0]) | skip)
      have H' := Aside0.mk H
      clear H
      go_wp2
      go_meet
      case rel => exact ⟨_, ((a0 == 24)), (by first | rfl | (simp; done) | (simp [*]; done)), H', ⟨by first | omega | exact Nat.le_refl _⟩, ⟨by repeat (first | (with_reducible first | exact HB.out | apply below_alloc | apply pw_below_drewN | apply below_drew1) | exact HB.out)⟩⟩
    case rest =>
     clear HC10
     try clear c1
     try clear p2
     try clear c3
     try clear c3b0
     try clear c3b1
     try clear c5
     try clear c6
     try clear c6b0
     try clear c6b1
     try clear c9
     try clear c9b0
     try clear c9b1
     try clear c11
     try clear c11b0
     try clear c11b1
     obtain ⟨kq, x29_9, rfl, HA, HJ9, HB⟩ := hcut
     cases kq with
     | zero => exact absurd HA.out (by simp [nodes_right.j0])
     | succ kj9 =>
      have H := HA.out
      clear HA
      simp only [nodes_right.j0] at H
      by_cases c12 : x29_9 = true
      ·subst c12
       have H1 : ((texts_Time.f a0 l1).bind fun bt248 => (some (bt248.2 == 0))) = some r := by rw [if_pos rfl] at H; exact H
       clear H
       have H := H1
       clear H1
       replace H := Option.bind_eq_some_iff.mp H
       obtain ⟨⟨t248, t249⟩, A130, H⟩ := H
       replace H : (some (t249 == 0)) = some r := H
       have A13 := Aside0.mk A130
       clear A130
       obtain rfl := Option.some.inj H
       go_wp2_with (first | ((with_reducible refine gate_callee (f := 58) rfl ?_); refine goesL_ (some 35) rfl rfl Tryd.func58 (by kernel_rfl) rfl #[.int .u8 a0, .slice A1 l1.length c1] rfl (by (try simp only [List.map_toArray, List.map_cons, List.map_nil]); first | done | rfl | (simp only [List.length_drop, List.length_take]; rfl)) ?_; (with_reducible refine (texts_Time.calls a0 _ _ l1 t248 t249 _ ?side1 ?side2 A13.out).mono ?_); (case side1 => repeat (first | exact (Kd.C_below HR1.out HB.out) | (with_reducible refine Kd.C_alloc ?_ _) | (with_reducible refine Kd.C_drewN ?_ _) | (with_reducible refine Kd.C_drew ?_))); (case side2 => exact HC1.out); rintro e w14 ⟨rfl, hb⟩; refine ⟨_, rfl, ?_⟩; have n0_ := Aside0.mk (below_step (by repeat (first | (with_reducible first | exact HB.out | apply below_alloc | apply pw_below_drewN | apply below_drew1) | exact HB.out)) hb); clear HB; have HB := n0_; clear n0_; (try clear hb); (try clear hb2); (try clear hk); (try clear hi)))
       go_ret
       exact ⟨by first | rfl | (simp [errW_none, errW_some] <;> rfl) | (simp [*, errW_none, errW_some] <;> rfl), by repeat (first | (with_reducible first | exact HB.out | apply below_alloc | apply pw_below_drewN | apply below_drew1) | exact HB.out)⟩
      ·replace c12 := Bool.eq_false_iff.mpr c12
       subst c12
       have H1 : (if a0 = 5 then (none) else (if a0 = 12 then (nodes_right.j1 kj9 a0 l1 0 a0 (a0 == 12)) else (if a0 = 19 then (nodes_right.j1 kj9 a0 l1 0 a0 (a0 == 19)) else (if a0 = 22 then (nodes_right.j1 kj9 a0 l1 0 a0 (a0 == 22)) else (nodes_right.j1 kj9 a0 l1 0 a0 (a0 == 27)))))) = some r := by rw [if_neg (show ¬ (false = true) by decide)] at H; exact H
       clear H
       have H := H1
       clear H1
       by_cases c15 : a0 = 5
       ·rw [if_pos c15] at H
        exact absurd H (by simp)
       ·rw [if_neg c15] at H
        have c15b0 : (a0 == 5) = false := beq_eq_false_iff_ne.mpr c15
        have c15b1 : (a0 != 5) = true := bne_iff_ne.mpr c15
        have HC16 := Aside0.mk H
        clear H
        go_upto_if 43 with (fail)
        go_cut [43] (fun v43 wc => ∃ (kq : Nat) (x43_15 : Bool), v43 = .bool x43_15 ∧ Aside0 (nodes_right.j1 kq a0 l1 0 a0 x43_15 = some r) ∧ Aside0 (kq ≤ kj9) ∧ Aside0 (Below w.heap.size w wc))
        case first =>
         have H := HC16.out
         clear HC16
         by_cases c17 : a0 = 12
         ·rw [if_pos c17] at H
          have c17b0 : (a0 == 12) = true := beq_iff_eq.mpr c17
          have c17b1 : (a0 != 12) = false := bne_eq_false_iff_eq.mpr c17
          clear c17
          (first | rw [c17b0] | (simp only [i64_w, i32_w]; rw [c17b0]) | skip)
          have H' := Aside0.mk H
          clear H
          go_wp2
          go_meet
          case rel => exact ⟨_, ((a0 == 12)), (by first | rfl | (simp; done) | (simp [*]; done)), H', ⟨by have := HJ9.out; first | omega | exact Nat.le_refl _⟩, ⟨by repeat (first | (with_reducible first | exact HB.out | apply below_alloc | apply pw_below_drewN | apply below_drew1) | exact HB.out)⟩⟩
         ·rw [if_neg c17] at H
          have c17b0 : (a0 == 12) = false := beq_eq_false_iff_ne.mpr c17
          have c17b1 : (a0 != 12) = true := bne_iff_ne.mpr c17
          (first | rw [c17b0] | (simp only [i64_w, i32_w]; rw [c17b0]) | skip)
          by_cases c18 : a0 = 19
          ·rw [if_pos c18] at H
           have c18b0 : (a0 == 19) = true := beq_iff_eq.mpr c18
           have c18b1 : (a0 != 19) = false := bne_eq_false_iff_eq.mpr c18
           clear c18
           have H' := Aside0.mk H
           clear H
           go_wp2
           go_meet
           case rel => exact ⟨_, ((a0 == 19)), (by first | rfl | (simp; done) | (simp [*]; done)), H', ⟨by have := HJ9.out; first | omega | exact Nat.le_refl _⟩, ⟨by repeat (first | (with_reducible first | exact HB.out | apply below_alloc | apply pw_below_drewN | apply below_drew1) | exact HB.out)⟩⟩
          ·rw [if_neg c18] at H
           have c18b0 : (a0 == 19) = false := beq_eq_false_iff_ne.mpr c18
           have c18b1 : (a0 != 19) = true := bne_iff_ne.mpr c18
           by_cases c19 : a0 = 22
           ·rw [if_pos c19] at H
            have c19b0 : (a0 == 22) = true := beq_iff_eq.mpr c19
            have c19b1 : (a0 != 22) = false := bne_eq_false_iff_eq.mpr c19
            clear c19
            have H' := Aside0.mk H
            clear H
            go_wp2
            go_meet
            case rel => exact ⟨_, ((a0 == 22)), (by first | rfl | (simp; done) | (simp [*]; done)), H', ⟨by have := HJ9.out; first | omega | exact Nat.le_refl _⟩, ⟨by repeat (first | (with_reducible first | exact HB.out | apply below_alloc | apply pw_below_drewN | apply below_drew1) | exact HB.out)⟩⟩
           ·rw [if_neg c19] at H
            have c19b0 : (a0 == 22) = false := beq_eq_false_iff_ne.mpr c19
            have c19b1 : (a0 != 22) = true := bne_iff_ne.mpr c19
            have H' := Aside0.mk H
            clear H
            go_wp2
            go_meet
            case rel => exact ⟨_, ((a0 == 27)), (by first | rfl | (simp; done) | (simp [*]; done)), H', ⟨by have := HJ9.out; first | omega | exact Nat.le_refl _⟩, ⟨by repeat (first | (with_reducible first | exact HB.out | apply below_alloc | apply pw_below_drewN | apply below_drew1) | exact HB.out)⟩⟩
        case rest =>
         clear HC16
         try clear c1
         try clear p2
         try clear c3
         try clear c3b0
         try clear c3b1
         try clear c5
         try clear c6
         try clear c6b0
         try clear c6b1
         try clear c9
         try clear c9b0
         try clear c9b1
         try clear c11
         try clear c11b0
         try clear c11b1
         try clear c12
         try clear c15
         try clear c15b0
         try clear c15b1
         try clear c17
         try clear c17b0
         try clear c17b1
         try clear c18
         try clear c18b0
         try clear c18b1
         try clear c19
         try clear c19b0
         try clear c19b1
         try clear p2
         obtain ⟨kq, x43_15, rfl, HA, HJ15, HB⟩ := hcut
         cases kq with
         | zero => exact absurd HA.out (by simp [nodes_right.j1])
         | succ kj15 =>
          have H := HA.out
          clear HA
          simp only [nodes_right.j1] at H
          by_cases c20 : x43_15 = true
          ·subst c20
           have H1 : ((texts_Right.f a0 l1).bind fun t250 => (some t250)) = some r := by rw [if_pos rfl] at H; exact H
           clear H
           have H := H1
           clear H1
           replace H := Option.bind_eq_some_iff.mp H
           obtain ⟨t250, A210, H⟩ := H
           replace H : (some t250) = some r := H
           have A21 := Aside0.mk A210
           clear A210
           obtain rfl := Option.some.inj H
           go_wp2_with (first | ((with_reducible refine gate_callee (f := 27) rfl ?_); refine goesL_ (some 50) rfl rfl Tryd.func27 (by kernel_rfl) rfl #[.int .u8 a0, .slice A1 l1.length c1] rfl (by (try simp only [List.map_toArray, List.map_cons, List.map_nil]); first | done | rfl | (simp only [List.length_drop, List.length_take]; rfl)) ?_; (with_reducible refine (texts_Right.calls a0 _ _ l1 t250 _ ?side1 ?side2 A21.out).mono ?_); (case side1 => repeat (first | exact (Kd.C_below HR1.out HB.out) | (with_reducible refine Kd.C_alloc ?_ _) | (with_reducible refine Kd.C_drewN ?_ _) | (with_reducible refine Kd.C_drew ?_))); (case side2 => exact HC1.out); rintro e w22 ⟨rfl, hb⟩; refine ⟨_, rfl, ?_⟩; have n0_ := Aside0.mk (below_step (by repeat (first | (with_reducible first | exact HB.out | apply below_alloc | apply pw_below_drewN | apply below_drew1) | exact HB.out)) hb); clear HB; have HB := n0_; clear n0_; (try clear hb); (try clear hb2); (try clear hk); (try clear hi)))
           go_ret
           exact ⟨by first | rfl | (simp [errW_none, errW_some] <;> rfl) | (simp [*, errW_none, errW_some] <;> rfl), by repeat (first | (with_reducible first | exact HB.out | apply below_alloc | apply pw_below_drewN | apply below_drew1) | exact HB.out)⟩
          ·replace c20 := Bool.eq_false_iff.mpr c20
           subst c20
           have H1 : (if a0 = 3 then (none) else (some (0 == 0))) = some r := by rw [if_neg (show ¬ (false = true) by decide)] at H; exact H
           clear H
           have H := H1
           clear H1
           by_cases c23 : a0 = 3
           ·rw [if_pos c23] at H
            exact absurd H (by simp)
           ·rw [if_neg c23] at H
            have c23b0 : (a0 == 3) = false := beq_eq_false_iff_ne.mpr c23
            have c23b1 : (a0 != 3) = true := bne_iff_ne.mpr c23
            obtain rfl := Option.some.inj H
            go_wp2
            go_ret
            exact ⟨by first | rfl | (simp [errW_none, errW_some] <;> rfl) | (simp [*, errW_none, errW_some] <;> rfl), by repeat (first | (with_reducible first | exact HB.out | apply below_alloc | apply pw_below_drewN | apply below_drew1) | exact HB.out)⟩
noncomputable def tlv_Put.f (a0 : Int) (l1 : List Int) : Option (List Int × Int) := (some (([a0, ((l1.length : Int)) % 256] : List Int) : List Int)).bind fun y251 => (if (Go.bits .and .u8 a0 31) = 31 then (some (([] : List Int), 11)) else (if (l1.length : Int) > 65535 then (some (([] : List Int), 2)) else (if (l1.length : Int) > 255 then ((some (([a0, 130, ((l1.length : Int) / 256) % 256, ((l1.length : Int)) % 256] : List Int) : List Int)).bind fun y254 => (if y254.length + l1.length < 140737488355328 then (some ((y254 ++ l1), 0)) else (none))) else (if (l1.length : Int) > 127 then ((some (([a0, 129, ((l1.length : Int)) % 256] : List Int) : List Int)).bind fun y260 => (if y260.length + l1.length < 140737488355328 then (some ((y260 ++ l1), 0)) else (none))) else (if y251.length + l1.length < 140737488355328 then (some ((y251 ++ l1), 0)) else (none))))))
set_option maxHeartbeats 8000000 in
set_option maxRecDepth 100000 in
theorem tlv_Put.calls (a0 : Int) (A1 : Option Addr) (c1 : Nat) (l1 : List Int) (r1 : List Int) (r2 : Int) (w : World) (hr1 : Kd.C (Kd.int .u8) w A1 l1.length l1) (hc1 : l1.length ≤ c1) (h : tlv_Put.f a0 l1 = some (r1, r2)) :
  Calls Tryd.prog 40 #[.int .u8 a0, .slice A1 l1.length c1] w fun e w' => ∃ v0_ : Value, e = .returned (.tuple #[v0_, .int .i64 r2]) ∧ Kd.R (Kd.int .u8) 5 w' w.heap.size (fun _ => True) v0_ r1 ∧ Below w.heap.size w w' := by
 have HR1 := Aside0.mk hr1
 have HC1 := Aside0.mk hc1
 clear hr1 hc1
 have HB := Aside0.mk (Below.refl w.heap.size w)
 have H : ((some (([a0, ((l1.length : Int)) % 256] : List Int) : List Int)).bind fun y251 => (if (Go.bits .and .u8 a0 31) = 31 then (some (([] : List Int), 11)) else (if (l1.length : Int) > 65535 then (some (([] : List Int), 2)) else (if (l1.length : Int) > 255 then ((some (([a0, 130, ((l1.length : Int) / 256) % 256, ((l1.length : Int)) % 256] : List Int) : List Int)).bind fun y254 => (if y254.length + l1.length < 140737488355328 then (some ((y254 ++ l1), 0)) else (none))) else (if (l1.length : Int) > 127 then ((some (([a0, 129, ((l1.length : Int)) % 256] : List Int) : List Int)).bind fun y260 => (if y260.length + l1.length < 140737488355328 then (some ((y260 ++ l1), 0)) else (none))) else (if y251.length + l1.length < 140737488355328 then (some ((y251 ++ l1), 0)) else (none))))))) = some (r1, r2) := h
 clear h
 obtain ⟨y251, hy251⟩ : ∃ y_ : List Int, y_ = (([a0, ((l1.length : Int)) % 256] : List Int)) := ⟨_, rfl⟩
 replace H : (if (Go.bits .and .u8 a0 31) = 31 then (some (([] : List Int), 11)) else (if (l1.length : Int) > 65535 then (some (([] : List Int), 2)) else (if (l1.length : Int) > 255 then ((some (([a0, 130, ((l1.length : Int) / 256) % 256, ((l1.length : Int)) % 256] : List Int) : List Int)).bind fun y254 => (if y254.length + l1.length < 140737488355328 then (some ((y254 ++ l1), 0)) else (none))) else (if (l1.length : Int) > 127 then ((some (([a0, 129, ((l1.length : Int)) % 256] : List Int) : List Int)).bind fun y260 => (if y260.length + l1.length < 140737488355328 then (some ((y260 ++ l1), 0)) else (none))) else (if y251.length + l1.length < 140737488355328 then (some ((y251 ++ l1), 0)) else (none)))))) = some (r1, r2) := by first | (rw [hy251]; with_reducible exact H) | (have H2_ := (Option.bind_some _ _).symm.trans H; rw [hy251]; with_reducible exact H2_) | (have H2_ := (Option.bind_some _ _).symm.trans H; with_reducible exact H2_) | with_reducible exact H | (rw [hy251]; exact H) | exact H
 have Ny251 := Aside0.mk hy251
 clear hy251
 by_cases c3 : (Go.bits .and .u8 a0 31) = 31
 ·rw [if_pos c3] at H
  have c3b0 : ((Go.bits .and .u8 a0 31) == 31) = true := beq_iff_eq.mpr c3
  have c3b1 : ((Go.bits .and .u8 a0 31) != 31) = false := bne_eq_false_iff_eq.mpr c3
  clear c3
  simp only [Option.some.injEq, Prod.mk.injEq] at H
  obtain ⟨rfl, rfl⟩ := H
  go_enter Tryd.func40, Tryd.ntmps40
  go_wp2_with (first | ((with_reducible refine gate_dst (N := 13) rfl ?_); refine Kd.R_lit (Kd.int .u8) _ 5 ?hg (N := 13) ?hd (xs := ([a0, ((l1.length : Int)) % 256] : List Int)) (inner := [.int .u8 a0, .int .u8 (((l1.length : Int)) % 256)]) (ok := fun _ => True) (okp := fun _ => True) ?hr ?hp (fun _ hk => hk) trivial (Below.refl _ _) (Nat.le_refl _) (by simp) ?_; (case hd => rfl); (case hg => rfl); (case hr => first | (go_simp; done) | (go_simp; rfl)); (case hp => exact (Reps.one (show Kd.M (Kd.int .u8) _ _ _ a0 [.int .u8 a0] from rfl) (Reps.one (show Kd.M (Kd.int .u8) _ _ _ (((l1.length : Int)) % 256) [.int .u8 (((l1.length : Int)) % 256)] from rfl) (Reps.none _ _)))); intro v252 w4 ho5 hb hg_ hnew_; clear hg_ hnew_; (first | rw [← Ny251.out] at ho5 | (simp only [Int.reduceToNat] at ho5; rw [← Ny251.out] at ho5)); have n0_ := Aside0.mk (Kd.R_lower ho5 (below_size (by repeat (first | (with_reducible first | exact HB.out | apply below_alloc | apply pw_below_drewN | apply below_drew1) | exact HB.out)))); have n1_ := Aside0.mk (below_step (by repeat (first | (with_reducible first | exact HB.out | apply below_alloc | apply pw_below_drewN | apply below_drew1) | exact HB.out)) hb); clear HB; have HO253 := n0_; have HB := n1_; clear n0_ n1_; clear hb ho5))
  go_ret2
  exact ⟨_, by first | rfl | (simp [errW_none, errW_some] <;> rfl) | (simp [*, errW_none, errW_some] <;> rfl), by first | exact Kd.R_nil _ _ _ _ _ | exact Kd.N_nil _ _ _ _ _ | exact Kd.V_nil _ _ _ _ _ | exact Kd.Q_nil _ _ _ _ _ | exact Kd.S_nil _ _ _ _ _, by repeat (first | (with_reducible first | exact HB.out | apply below_alloc | apply pw_below_drewN | apply below_drew1) | exact HB.out)⟩
 ·rw [if_neg c3] at H
  have c3b0 : ((Go.bits .and .u8 a0 31) == 31) = false := beq_eq_false_iff_ne.mpr c3
  have c3b1 : ((Go.bits .and .u8 a0 31) != 31) = true := bne_iff_ne.mpr c3
  by_cases c6 : (l1.length : Int) > 65535
  ·rw [if_pos c6] at H
   have c6b0 : decide (65535 < (l1.length : Int)) = true := decide_eq_true c6
   have c6b1 : decide (65535 < l1.length) = true := decide_eq_true (by omega)
   clear c6
   simp only [Option.some.injEq, Prod.mk.injEq] at H
   obtain ⟨rfl, rfl⟩ := H
   go_enter Tryd.func40, Tryd.ntmps40
   go_wp2_with (first | ((with_reducible refine gate_dst (N := 13) rfl ?_); refine Kd.R_lit (Kd.int .u8) _ 5 ?hg (N := 13) ?hd (xs := ([a0, ((l1.length : Int)) % 256] : List Int)) (inner := [.int .u8 a0, .int .u8 (((l1.length : Int)) % 256)]) (ok := fun _ => True) (okp := fun _ => True) ?hr ?hp (fun _ hk => hk) trivial (Below.refl _ _) (Nat.le_refl _) (by simp) ?_; (case hd => rfl); (case hg => rfl); (case hr => first | (go_simp; done) | (go_simp; rfl)); (case hp => exact (Reps.one (show Kd.M (Kd.int .u8) _ _ _ a0 [.int .u8 a0] from rfl) (Reps.one (show Kd.M (Kd.int .u8) _ _ _ (((l1.length : Int)) % 256) [.int .u8 (((l1.length : Int)) % 256)] from rfl) (Reps.none _ _)))); intro v252 w7 ho8 hb hg_ hnew_; clear hg_ hnew_; (first | rw [← Ny251.out] at ho8 | (simp only [Int.reduceToNat] at ho8; rw [← Ny251.out] at ho8)); have n0_ := Aside0.mk (Kd.R_lower ho8 (below_size (by repeat (first | (with_reducible first | exact HB.out | apply below_alloc | apply pw_below_drewN | apply below_drew1) | exact HB.out)))); have n1_ := Aside0.mk (below_step (by repeat (first | (with_reducible first | exact HB.out | apply below_alloc | apply pw_below_drewN | apply below_drew1) | exact HB.out)) hb); clear HB; have HO253 := n0_; have HB := n1_; clear n0_ n1_; clear hb ho8))
   go_ret2
   exact ⟨_, by first | rfl | (simp [errW_none, errW_some] <;> rfl) | (simp [*, errW_none, errW_some] <;> rfl), by first | exact Kd.R_nil _ _ _ _ _ | exact Kd.N_nil _ _ _ _ _ | exact Kd.V_nil _ _ _ _ _ | exact Kd.Q_nil _ _ _ _ _ | exact Kd.S_nil _ _ _ _ _, by repeat (first | (with_reducible first | exact HB.out | apply below_alloc | apply pw_below_drewN | apply below_drew1) | exact HB.out)⟩
  ·rw [if_neg c6] at H
   have c6b0 : decide (65535 < (l1.length : Int)) = false := decide_eq_false c6
   have c6b1 : decide (65535 < l1.length) = false := decide_eq_false (by omega)
   clear c6
   by_cases c9 : (l1.length : Int) > 255
   ·rw [if_pos c9] at H
    have c9b0 : decide (255 < (l1.length : Int)) = true := decide_eq_true c9
    have c9b1 : decide (255 < l1.length) = true := decide_eq_true (by omega)
    clear c9
    obtain ⟨y254, hy254⟩ : ∃ y_ : List Int, y_ = (([a0, 130, ((l1.length : Int) / 256) % 256, ((l1.length : Int)) % 256] : List Int)) := ⟨_, rfl⟩
    replace H : (if y254.length + l1.length < 140737488355328 then (some ((y254 ++ l1), 0)) else (none)) = some (r1, r2) := by first | (rw [hy254]; with_reducible exact H) | (have H2_ := (Option.bind_some _ _).symm.trans H; rw [hy254]; with_reducible exact H2_) | (have H2_ := (Option.bind_some _ _).symm.trans H; with_reducible exact H2_) | with_reducible exact H | (rw [hy254]; exact H) | exact H
    have Ny254 := Aside0.mk hy254
    clear hy254
    by_cases c10 : y254.length + l1.length < 140737488355328
    ·rw [if_pos c10] at H
     have LMc10 := Aside0.mk c10
     clear c10
     obtain ⟨y257, hy257⟩ : ∃ y_ : List Int, y_ = (y254 ++ l1) := ⟨_, rfl⟩
     replace H : (some (y257, 0)) = some (r1, r2) := by first | (rw [hy257]; with_reducible exact H) | (have H2_ := (Option.bind_some _ _).symm.trans H; rw [hy257]; with_reducible exact H2_) | (have H2_ := (Option.bind_some _ _).symm.trans H; with_reducible exact H2_) | with_reducible exact H | (rw [hy257]; exact H) | exact H
     have Ny257 := Aside0.mk hy257
     clear hy257
     simp only [Option.some.injEq, Prod.mk.injEq] at H
     obtain ⟨rfl, rfl⟩ := H
     go_enter Tryd.func40, Tryd.ntmps40
     go_wp2_with (first | ((with_reducible refine gate_dst (N := 13) rfl ?_); refine Kd.R_lit (Kd.int .u8) _ 5 ?hg (N := 13) ?hd (xs := ([a0, ((l1.length : Int)) % 256] : List Int)) (inner := [.int .u8 a0, .int .u8 (((l1.length : Int)) % 256)]) (ok := fun _ => True) (okp := fun _ => True) ?hr ?hp (fun _ hk => hk) trivial (Below.refl _ _) (Nat.le_refl _) (by simp) ?_; (case hd => rfl); (case hg => rfl); (case hr => first | (go_simp; done) | (go_simp; rfl)); (case hp => exact (Reps.one (show Kd.M (Kd.int .u8) _ _ _ a0 [.int .u8 a0] from rfl) (Reps.one (show Kd.M (Kd.int .u8) _ _ _ (((l1.length : Int)) % 256) [.int .u8 (((l1.length : Int)) % 256)] from rfl) (Reps.none _ _)))); intro v252 w11 ho12 hb hg_ hnew_; clear hg_ hnew_; (first | rw [← Ny251.out] at ho12 | (simp only [Int.reduceToNat] at ho12; rw [← Ny251.out] at ho12)); have n0_ := Aside0.mk (Kd.R_lower ho12 (below_size (by repeat (first | (with_reducible first | exact HB.out | apply below_alloc | apply pw_below_drewN | apply below_drew1) | exact HB.out)))); have n1_ := Aside0.mk (below_step (by repeat (first | (with_reducible first | exact HB.out | apply below_alloc | apply pw_below_drewN | apply below_drew1) | exact HB.out)) hb); clear HB; have HO253 := n0_; have HB := n1_; clear n0_ n1_; clear hb ho12) | ((with_reducible refine gate_dst (N := 30) rfl ?_); refine Kd.R_lit (Kd.int .u8) _ 5 ?hg (N := 30) ?hd (xs := ([a0, 130, ((l1.length : Int) / 256) % 256, ((l1.length : Int)) % 256] : List Int)) (inner := [.int .u8 a0, .int .u8 130, .int .u8 (((l1.length : Int) / 256) % 256), .int .u8 (((l1.length : Int)) % 256)]) (ok := fun _ => True) (okp := fun _ => True) ?hr ?hp (fun _ hk => hk) trivial (Below.refl _ _) (Nat.le_refl _) (by simp) ?_; (case hd => rfl); (case hg => rfl); (case hr => first | (go_simp; done) | (go_simp; rfl)); (case hp => exact (Reps.one (show Kd.M (Kd.int .u8) _ _ _ a0 [.int .u8 a0] from rfl) (Reps.one (show Kd.M (Kd.int .u8) _ _ _ 130 [.int .u8 130] from rfl) (Reps.one (show Kd.M (Kd.int .u8) _ _ _ (((l1.length : Int) / 256) % 256) [.int .u8 (((l1.length : Int) / 256) % 256)] from rfl) (Reps.one (show Kd.M (Kd.int .u8) _ _ _ (((l1.length : Int)) % 256) [.int .u8 (((l1.length : Int)) % 256)] from rfl) (Reps.none _ _)))))); intro v255 w13 ho14 hb hg_ hnew_; clear hg_ hnew_; (first | rw [← Ny254.out] at ho14 | (simp only [Int.reduceToNat] at ho14; rw [← Ny254.out] at ho14)); have n0_ := Aside0.mk (Kd.R_elder' (by (with_reducible repeat (first | apply Kd.R_alloc | apply Kd.R_drewN | apply Kd.R_drew)); exact HO253.out) (Kd.R_base ho14) hb); have n1_ := Aside0.mk (Kd.R_lower (Kd.R_new' ho14 (Kd.R_lt (by (with_reducible repeat (first | apply Kd.R_alloc | apply Kd.R_drewN | apply Kd.R_drew)); exact HO253.out))) (below_size (by repeat (first | (with_reducible first | exact HB.out | apply below_alloc | apply pw_below_drewN | apply below_drew1) | exact HB.out)))); have n2_ := Aside0.mk (below_step (by repeat (first | (with_reducible first | exact HB.out | apply below_alloc | apply pw_below_drewN | apply below_drew1) | exact HB.out)) hb); clear HO253; clear HB; have HO253 := n0_; have HO256 := n1_; have HB := n2_; clear n0_ n1_ n2_; clear hb ho14) | ((with_reducible refine gate_builtin (b := .append) (xs := #[.tmp 38, .tmp 39]) rfl ?_); at_builtin; refine Kd.R_append_rows (Kd.int .u8) (w0 := w) w.heap.size rfl (.tmp 38) (.tmp 39) 25 5 (.int .u8 0) 1 rfl Tryd.underlying25 info5 rfl (by decide) (by omega) v255 y254 l1 _ _ _ (fun k_ => some k_ ≠ (v252 : Value).ownBlock) (fun _ => False) rfl rfl ?aO ?aR (fun _ _ h => h) (fun _ h => h.elim) ?aF ?aB ?aS ?aL ?_; (case aR => repeat (first | exact (Kd.C_below HR1.out HB.out) | (with_reducible refine Kd.C_alloc ?_ _) | (with_reducible refine Kd.C_drewN ?_ _) | (with_reducible refine Kd.C_drew ?_))); (case aB => exact (by repeat (first | (with_reducible first | exact HB.out | apply below_alloc | apply pw_below_drewN | apply below_drew1) | exact HB.out))); (case aF => exact (fun k_ hk => Kd.fresh' (Kd.R_lt (by (with_reducible repeat (first | apply Kd.R_alloc | apply Kd.R_drewN | apply Kd.R_drew)); exact HO253.out)) k_ hk)); (case aO => exact (by (with_reducible repeat (first | apply Kd.R_alloc | apply Kd.R_drewN | apply Kd.R_drew)); exact Kd.R_mono HO256.out (fun _ hk => hk.2))); (case aS => exact (below_size (by repeat (first | (with_reducible first | exact HB.out | apply below_alloc | apply pw_below_drewN | apply below_drew1) | exact HB.out)))); (case aL => have := LMc10.out; omega); intro v258 w15 ho hb hg hat; rw [← Ny257.out] at ho; have n0_ := Aside0.mk (Kd.R_after (ok := (fun _ => True)) (by (with_reducible repeat (first | apply Kd.R_alloc | apply Kd.R_drewN | apply Kd.R_drew)); exact HO253.out) hg hat); have n1_ := Aside0.mk (hb); have n2_ := Aside0.mk (ho); clear HO253; clear HB; clear HO256; have HO253 := n0_; have HB := n1_; have HO259 := n2_; clear n0_ n1_ n2_; clear ho hb hg hat))
     go_ret2
     exact ⟨_, by first | rfl | (simp [errW_none, errW_some] <;> rfl) | (simp [*, errW_none, errW_some] <;> rfl), by (with_reducible repeat (first | apply Kd.R_alloc | apply Kd.R_drewN | apply Kd.R_drew)); exact Kd.R_mono HO259.out (fun _ hk => trivial), by repeat (first | (with_reducible first | exact HB.out | apply below_alloc | apply pw_below_drewN | apply below_drew1) | exact HB.out)⟩
    ·rw [if_neg c10] at H
     exact absurd H (by simp)
   ·rw [if_neg c9] at H
    have c9b0 : decide (255 < (l1.length : Int)) = false := decide_eq_false c9
    have c9b1 : decide (255 < l1.length) = false := decide_eq_false (by omega)
    clear c9
    by_cases c16 : (l1.length : Int) > 127
    ·rw [if_pos c16] at H
     have c16b0 : decide (127 < (l1.length : Int)) = true := decide_eq_true c16
     have c16b1 : decide (127 < l1.length) = true := decide_eq_true (by omega)
     clear c16
     obtain ⟨y260, hy260⟩ : ∃ y_ : List Int, y_ = (([a0, 129, ((l1.length : Int)) % 256] : List Int)) := ⟨_, rfl⟩
     replace H : (if y260.length + l1.length < 140737488355328 then (some ((y260 ++ l1), 0)) else (none)) = some (r1, r2) := by first | (rw [hy260]; with_reducible exact H) | (have H2_ := (Option.bind_some _ _).symm.trans H; rw [hy260]; with_reducible exact H2_) | (have H2_ := (Option.bind_some _ _).symm.trans H; with_reducible exact H2_) | with_reducible exact H | (rw [hy260]; exact H) | exact H
     have Ny260 := Aside0.mk hy260
     clear hy260
     by_cases c17 : y260.length + l1.length < 140737488355328
     ·rw [if_pos c17] at H
      have LMc17 := Aside0.mk c17
      clear c17
      obtain ⟨y263, hy263⟩ : ∃ y_ : List Int, y_ = (y260 ++ l1) := ⟨_, rfl⟩
      replace H : (some (y263, 0)) = some (r1, r2) := by first | (rw [hy263]; with_reducible exact H) | (have H2_ := (Option.bind_some _ _).symm.trans H; rw [hy263]; with_reducible exact H2_) | (have H2_ := (Option.bind_some _ _).symm.trans H; with_reducible exact H2_) | with_reducible exact H | (rw [hy263]; exact H) | exact H
      have Ny263 := Aside0.mk hy263
      clear hy263
      simp only [Option.some.injEq, Prod.mk.injEq] at H
      obtain ⟨rfl, rfl⟩ := H
      go_enter Tryd.func40, Tryd.ntmps40
      go_wp2_with (first | ((with_reducible refine gate_dst (N := 13) rfl ?_); refine Kd.R_lit (Kd.int .u8) _ 5 ?hg (N := 13) ?hd (xs := ([a0, ((l1.length : Int)) % 256] : List Int)) (inner := [.int .u8 a0, .int .u8 (((l1.length : Int)) % 256)]) (ok := fun _ => True) (okp := fun _ => True) ?hr ?hp (fun _ hk => hk) trivial (Below.refl _ _) (Nat.le_refl _) (by simp) ?_; (case hd => rfl); (case hg => rfl); (case hr => first | (go_simp; done) | (go_simp; rfl)); (case hp => exact (Reps.one (show Kd.M (Kd.int .u8) _ _ _ a0 [.int .u8 a0] from rfl) (Reps.one (show Kd.M (Kd.int .u8) _ _ _ (((l1.length : Int)) % 256) [.int .u8 (((l1.length : Int)) % 256)] from rfl) (Reps.none _ _)))); intro v252 w18 ho19 hb hg_ hnew_; clear hg_ hnew_; (first | rw [← Ny251.out] at ho19 | (simp only [Int.reduceToNat] at ho19; rw [← Ny251.out] at ho19)); have n0_ := Aside0.mk (Kd.R_lower ho19 (below_size (by repeat (first | (with_reducible first | exact HB.out | apply below_alloc | apply pw_below_drewN | apply below_drew1) | exact HB.out)))); have n1_ := Aside0.mk (below_step (by repeat (first | (with_reducible first | exact HB.out | apply below_alloc | apply pw_below_drewN | apply below_drew1) | exact HB.out)) hb); clear HB; have HO253 := n0_; have HB := n1_; clear n0_ n1_; clear hb ho19) | ((with_reducible refine gate_dst (N := 37) rfl ?_); refine Kd.R_lit (Kd.int .u8) _ 5 ?hg (N := 37) ?hd (xs := ([a0, 129, ((l1.length : Int)) % 256] : List Int)) (inner := [.int .u8 a0, .int .u8 129, .int .u8 (((l1.length : Int)) % 256)]) (ok := fun _ => True) (okp := fun _ => True) ?hr ?hp (fun _ hk => hk) trivial (Below.refl _ _) (Nat.le_refl _) (by simp) ?_; (case hd => rfl); (case hg => rfl); (case hr => first | (go_simp; done) | (go_simp; rfl)); (case hp => exact (Reps.one (show Kd.M (Kd.int .u8) _ _ _ a0 [.int .u8 a0] from rfl) (Reps.one (show Kd.M (Kd.int .u8) _ _ _ 129 [.int .u8 129] from rfl) (Reps.one (show Kd.M (Kd.int .u8) _ _ _ (((l1.length : Int)) % 256) [.int .u8 (((l1.length : Int)) % 256)] from rfl) (Reps.none _ _))))); intro v261 w20 ho21 hb hg_ hnew_; clear hg_ hnew_; (first | rw [← Ny260.out] at ho21 | (simp only [Int.reduceToNat] at ho21; rw [← Ny260.out] at ho21)); have n0_ := Aside0.mk (Kd.R_elder' (by (with_reducible repeat (first | apply Kd.R_alloc | apply Kd.R_drewN | apply Kd.R_drew)); exact HO253.out) (Kd.R_base ho21) hb); have n1_ := Aside0.mk (Kd.R_lower (Kd.R_new' ho21 (Kd.R_lt (by (with_reducible repeat (first | apply Kd.R_alloc | apply Kd.R_drewN | apply Kd.R_drew)); exact HO253.out))) (below_size (by repeat (first | (with_reducible first | exact HB.out | apply below_alloc | apply pw_below_drewN | apply below_drew1) | exact HB.out)))); have n2_ := Aside0.mk (below_step (by repeat (first | (with_reducible first | exact HB.out | apply below_alloc | apply pw_below_drewN | apply below_drew1) | exact HB.out)) hb); clear HO253; clear HB; have HO253 := n0_; have HO262 := n1_; have HB := n2_; clear n0_ n1_ n2_; clear hb ho21) | ((with_reducible refine gate_builtin (b := .append) (xs := #[.tmp 38, .tmp 39]) rfl ?_); at_builtin; refine Kd.R_append_rows (Kd.int .u8) (w0 := w) w.heap.size rfl (.tmp 38) (.tmp 39) 25 5 (.int .u8 0) 1 rfl Tryd.underlying25 info5 rfl (by decide) (by omega) v261 y260 l1 _ _ _ (fun k_ => some k_ ≠ (v252 : Value).ownBlock) (fun _ => False) rfl rfl ?aO ?aR (fun _ _ h => h) (fun _ h => h.elim) ?aF ?aB ?aS ?aL ?_; (case aR => repeat (first | exact (Kd.C_below HR1.out HB.out) | (with_reducible refine Kd.C_alloc ?_ _) | (with_reducible refine Kd.C_drewN ?_ _) | (with_reducible refine Kd.C_drew ?_))); (case aB => exact (by repeat (first | (with_reducible first | exact HB.out | apply below_alloc | apply pw_below_drewN | apply below_drew1) | exact HB.out))); (case aF => exact (fun k_ hk => Kd.fresh' (Kd.R_lt (by (with_reducible repeat (first | apply Kd.R_alloc | apply Kd.R_drewN | apply Kd.R_drew)); exact HO253.out)) k_ hk)); (case aO => exact (by (with_reducible repeat (first | apply Kd.R_alloc | apply Kd.R_drewN | apply Kd.R_drew)); exact Kd.R_mono HO262.out (fun _ hk => hk.2))); (case aS => exact (below_size (by repeat (first | (with_reducible first | exact HB.out | apply below_alloc | apply pw_below_drewN | apply below_drew1) | exact HB.out)))); (case aL => have := LMc17.out; omega); intro v264 w22 ho hb hg hat; rw [← Ny263.out] at ho; have n0_ := Aside0.mk (Kd.R_after (ok := (fun _ => True)) (by (with_reducible repeat (first | apply Kd.R_alloc | apply Kd.R_drewN | apply Kd.R_drew)); exact HO253.out) hg hat); have n1_ := Aside0.mk (hb); have n2_ := Aside0.mk (ho); clear HO253; clear HB; clear HO262; have HO253 := n0_; have HB := n1_; have HO265 := n2_; clear n0_ n1_ n2_; clear ho hb hg hat))
      go_ret2
      exact ⟨_, by first | rfl | (simp [errW_none, errW_some] <;> rfl) | (simp [*, errW_none, errW_some] <;> rfl), by (with_reducible repeat (first | apply Kd.R_alloc | apply Kd.R_drewN | apply Kd.R_drew)); exact Kd.R_mono HO265.out (fun _ hk => trivial), by repeat (first | (with_reducible first | exact HB.out | apply below_alloc | apply pw_below_drewN | apply below_drew1) | exact HB.out)⟩
     ·rw [if_neg c17] at H
      exact absurd H (by simp)
    ·rw [if_neg c16] at H
     have c16b0 : decide (127 < (l1.length : Int)) = false := decide_eq_false c16
     have c16b1 : decide (127 < l1.length) = false := decide_eq_false (by omega)
     clear c16
     by_cases c23 : y251.length + l1.length < 140737488355328
     ·rw [if_pos c23] at H
      have LMc23 := Aside0.mk c23
      clear c23
      obtain ⟨y266, hy266⟩ : ∃ y_ : List Int, y_ = (y251 ++ l1) := ⟨_, rfl⟩
      replace H : (some (y266, 0)) = some (r1, r2) := by first | (rw [hy266]; with_reducible exact H) | (have H2_ := (Option.bind_some _ _).symm.trans H; rw [hy266]; with_reducible exact H2_) | (have H2_ := (Option.bind_some _ _).symm.trans H; with_reducible exact H2_) | with_reducible exact H | (rw [hy266]; exact H) | exact H
      have Ny266 := Aside0.mk hy266
      clear hy266
      simp only [Option.some.injEq, Prod.mk.injEq] at H
      obtain ⟨rfl, rfl⟩ := H
      go_enter Tryd.func40, Tryd.ntmps40
      go_wp2_with (first | ((with_reducible refine gate_dst (N := 13) rfl ?_); refine Kd.R_lit (Kd.int .u8) _ 5 ?hg (N := 13) ?hd (xs := ([a0, ((l1.length : Int)) % 256] : List Int)) (inner := [.int .u8 a0, .int .u8 (((l1.length : Int)) % 256)]) (ok := fun _ => True) (okp := fun _ => True) ?hr ?hp (fun _ hk => hk) trivial (Below.refl _ _) (Nat.le_refl _) (by simp) ?_; (case hd => rfl); (case hg => rfl); (case hr => first | (go_simp; done) | (go_simp; rfl)); (case hp => exact (Reps.one (show Kd.M (Kd.int .u8) _ _ _ a0 [.int .u8 a0] from rfl) (Reps.one (show Kd.M (Kd.int .u8) _ _ _ (((l1.length : Int)) % 256) [.int .u8 (((l1.length : Int)) % 256)] from rfl) (Reps.none _ _)))); intro v252 w24 ho25 hb hg_ hnew_; clear hg_ hnew_; (first | rw [← Ny251.out] at ho25 | (simp only [Int.reduceToNat] at ho25; rw [← Ny251.out] at ho25)); have n0_ := Aside0.mk (Kd.R_lower ho25 (below_size (by repeat (first | (with_reducible first | exact HB.out | apply below_alloc | apply pw_below_drewN | apply below_drew1) | exact HB.out)))); have n1_ := Aside0.mk (below_step (by repeat (first | (with_reducible first | exact HB.out | apply below_alloc | apply pw_below_drewN | apply below_drew1) | exact HB.out)) hb); clear HB; have HO253 := n0_; have HB := n1_; clear n0_ n1_; clear hb ho25) | ((with_reducible refine gate_builtin (b := .append) (xs := #[.tmp 38, .tmp 39]) rfl ?_); at_builtin; refine Kd.R_append_rows (Kd.int .u8) (w0 := w) w.heap.size rfl (.tmp 38) (.tmp 39) 25 5 (.int .u8 0) 1 rfl Tryd.underlying25 info5 rfl (by decide) (by omega) v252 y251 l1 _ _ _ (fun _ => True) (fun _ => False) rfl rfl ?aO ?aR (fun _ _ h => h) (fun _ h => h.elim) ?aF ?aB ?aS ?aL ?_; (case aR => repeat (first | exact (Kd.C_below HR1.out HB.out) | (with_reducible refine Kd.C_alloc ?_ _) | (with_reducible refine Kd.C_drewN ?_ _) | (with_reducible refine Kd.C_drew ?_))); (case aB => exact (by repeat (first | (with_reducible first | exact HB.out | apply below_alloc | apply pw_below_drewN | apply below_drew1) | exact HB.out))); (case aF => exact (fun _ _ => trivial)); (case aO => exact (by (with_reducible repeat (first | apply Kd.R_alloc | apply Kd.R_drewN | apply Kd.R_drew)); exact HO253.out)); (case aS => exact (below_size (by repeat (first | (with_reducible first | exact HB.out | apply below_alloc | apply pw_below_drewN | apply below_drew1) | exact HB.out)))); (case aL => have := LMc23.out; omega); intro v267 w26 ho hb hg hat; rw [← Ny266.out] at ho; have n0_ := Aside0.mk (hb); have n1_ := Aside0.mk (ho); clear HB; clear HO253; have HB := n0_; have HO268 := n1_; clear n0_ n1_; clear ho hb hg hat))
      go_ret2
      exact ⟨_, by first | rfl | (simp [errW_none, errW_some] <;> rfl) | (simp [*, errW_none, errW_some] <;> rfl), by (with_reducible repeat (first | apply Kd.R_alloc | apply Kd.R_drewN | apply Kd.R_drew)); exact HO268.out, by repeat (first | (with_reducible first | exact HB.out | apply below_alloc | apply pw_below_drewN | apply below_drew1) | exact HB.out)⟩
     ·rw [if_neg c23] at H
      exact absurd H (by simp)
mutual
noncomputable def nodes_printed.l0 : Nat → Int → List (List Int) → List (S45) → Int → Int → Int → List Int → List (S45) → Option (List Int)
 | 0, _, _, _, _, _, _, _, _ => none
 | k + 1, x1, x7, x53, x54, x55, x270000, x270001, x270002 => if x55 < x54 then (if 0 ≤ x55 then (if x55 < (x53.length : Int) then ((nodes_printed.f k ((rd_T45 x53 x55).f0) ((rd_T45 x53 x55).f1) ((rd_T45 x53 x55).f2) (wrap64 (x1 + 1))).bind fun t282 => (if x7.length < 5864062014805 then (nodes_printed.l0 k x1 (x7 ++ [t282]) x53 x54 (wrap64 (x55 + 1)) x270000 x270001 x270002) else (none))) else (none)) else (none)) else ((nodes_rise.f x270000 x7 0).bind fun _ => ((slices_Concat_byte_byte.f x7).bind fun t288 => ((tlv_Put.f x270000 t288).bind fun bt291 => ((nodes_must.f (bt291.2 == 0) bt291.2 0).bind fun _ => (some bt291.1)))))
noncomputable def nodes_printed.f : Nat → Int → List Int → List (S45) → Int → Option (List Int)
 | 0, _, _, _, _ => none
 | k + 1, a0_0, l0_1, l0_2, a1 => (nodes_must.f (decide (a1 < 32)) 41 0).bind fun _ => ((nodes_tagged.f k a0_0 0).bind fun _ => ((nodes_compound.f a0_0).bind fun t270 => (if t270 = true then ((nodes_must.f ((l0_1.length : Int) == 0) 43 0).bind fun _ => (nodes_printed.l0 k a1 ([] : List (List Int)) l0_2 (l0_2.length : Int) 0 a0_0 l0_1 l0_2)) else (if (l0_2.length : Int) = 0 then ((nodes_right.f k a0_0 l0_1).bind fun t271 => ((nodes_must.f t271 43 0).bind fun _ => ((tlv_Put.f a0_0 l0_1).bind fun bt272 => ((nodes_must.f (bt272.2 == 0) bt272.2 0).bind fun _ => (some bt272.1))))) else ((nodes_must.f false 43 0).bind fun _ => ((tlv_Put.f a0_0 l0_1).bind fun bt276 => ((nodes_must.f (bt276.2 == 0) bt276.2 0).bind fun _ => (some bt276.1))))))))
end
theorem nodes_printed.mono_l : ∀ k, (∀ y0 y1 y2 y3, LeO (nodes_printed.f k y0 y1 y2 y3) (nodes_printed.f (k + 1) y0 y1 y2 y3)) ∧ (∀ y0 y1 y2 y3 y4 y5 y6 y7, LeO (nodes_printed.l0 k y0 y1 y2 y3 y4 y5 y6 y7) (nodes_printed.l0 (k + 1) y0 y1 y2 y3 y4 y5 y6 y7))
 | 0 => ⟨fun _ _ _ _ r h => by simp [nodes_printed.f] at h, fun _ _ _ _ _ _ _ _ r h => by simp [nodes_printed.l0] at h⟩
 | k + 1 => by
  obtain ⟨ih0, ih1⟩ := nodes_printed.mono_l k
  refine ⟨?_, ?_⟩
  ·intro y0 y1 y2 y3
   unfold nodes_printed.f
   repeat' first
   | (with_reducible exact ih0 _ _ _ _)
   | (with_reducible exact ih1 _ _ _ _ _ _ _ _)
   | (with_reducible exact nodes_right.mono _ _ _)
   | (with_reducible exact nodes_tagged.mono _ _ _)
   | (with_reducible exact LeO.refl _)
   | (with_reducible exact LeO.none _)
   | (with_reducible refine LeO.ite ?_ ?_)
   | (with_reducible refine LeO.bind ?_ (fun _ => ?_))
   | exact ih0 _ _ _ _
   | exact ih1 _ _ _ _ _ _ _ _
   | exact nodes_right.mono _ _ _
   | exact nodes_tagged.mono _ _ _
   | exact LeO.none _
   | refine LeO.ite ?_ ?_
   | refine LeO.bind ?_ (fun _ => ?_)
  ·intro y0 y1 y2 y3 y4 y5 y6 y7
   unfold nodes_printed.l0
   repeat' first
   | (with_reducible exact ih0 _ _ _ _)
   | (with_reducible exact ih1 _ _ _ _ _ _ _ _)
   | (with_reducible exact nodes_right.mono _ _ _)
   | (with_reducible exact nodes_tagged.mono _ _ _)
   | (with_reducible exact LeO.refl _)
   | (with_reducible exact LeO.none _)
   | (with_reducible refine LeO.ite ?_ ?_)
   | (with_reducible refine LeO.bind ?_ (fun _ => ?_))
   | exact ih0 _ _ _ _
   | exact ih1 _ _ _ _ _ _ _ _
   | exact nodes_right.mono _ _ _
   | exact nodes_tagged.mono _ _ _
   | exact LeO.none _
   | refine LeO.ite ?_ ?_
   | refine LeO.bind ?_ (fun _ => ?_)
theorem nodes_printed.mono : ∀ a0 a1 a2 a3 k, LeO (nodes_printed.f k a0 a1 a2 a3) (nodes_printed.f (k + 1) a0 a1 a2 a3) := by
 intro a0 a1 a2 a3 k
 obtain ⟨ih0, ih1⟩ := nodes_printed.mono_l k
 exact ih0 a0 a1 a2 a3
def nodes_printed.T16 : Bool × List (List Nat × List Nat) := (true, [([], []), ([0], [0]), ([], []), ([2], [2]), ([1, 3, 3], [1, 3]), ([4], [4]), ([5], [5]), ([5], [5]), ([6, 4, 0, 1, 2, 3, 4, 5, 6], [6]), ([7, 8, 0, 1, 2, 3, 4, 5, 6, 7, 8], [7])])
def nodes_printed.B16 : List Nat := [0, 1, 0, 4, 15, 31, 63, 63, 127, 511]
theorem nodes_printed.tab16 : rtab .any (opsOf Tryd.f19 16) = nodes_printed.T16 := by kernel_rfl
theorem nodes_printed.bits16 : waitsOk nodes_printed.T16.2 nodes_printed.B16 = true := by kernel_rfl
set_option maxHeartbeats 8000000 in
set_option maxRecDepth 100000 in
theorem nodes_printed.calls (k : Nat) : ∀ (a0_0 : Int) (A0_1 : Option Addr) (c0_1 : Nat) (l0_1 : List Int) (A0_2 : Option Addr) (c0_2 : Nat) (l0_2 : List (S45)) (a1 : Int) (r : List Int) (w : World) (hr0_1 : Kd.C (Kd.int .u8) w A0_1 l0_1.length l0_1) (hc0_1 : l0_1.length ≤ c0_1) (hr0_2 : Kd.C k45 w A0_2 l0_2.length l0_2) (hc0_2 : l0_2.length ≤ c0_2) (h : nodes_printed.f k a0_0 l0_1 l0_2 a1 = some r),
  Calls Tryd.prog 19 #[.agg #[.int .u8 a0_0, .slice A0_1 l0_1.length c0_1, .slice A0_2 l0_2.length c0_2], .int .i64 a1] w fun e w' => ∃ v0_ : Value, e = .returned (v0_) ∧ Kd.R (Kd.int .u8) 5 w' w.heap.size (fun _ => True) v0_ r ∧ Below w.heap.size w w' := by
 induction k using Nat.strongRecOn with
 | _ k ih =>
 intro a0_0 A0_1 c0_1 l0_1 A0_2 c0_2 l0_2 a1 r w hr0_1 hc0_1 hr0_2 hc0_2 h
 cases k with
 | zero => exact absurd h (by simp [nodes_printed.f])
 | succ k =>
 simp only [nodes_printed.f] at h
 have hu45 := Tryd.underlying45
 have HR0_1 := Aside0.mk hr0_1
 have HC0_1 := Aside0.mk hc0_1
 clear hr0_1 hc0_1
 have HR0_2 := Aside0.mk hr0_2
 have HC0_2 := Aside0.mk hc0_2
 clear hr0_2 hc0_2
 have HB := Aside0.mk (Below.refl w.heap.size w)
 have H : ((nodes_must.f (decide (a1 < 32)) 41 0).bind fun _ => ((nodes_tagged.f k a0_0 0).bind fun _ => ((nodes_compound.f a0_0).bind fun t270 => (if t270 = true then ((nodes_must.f ((l0_1.length : Int) == 0) 43 0).bind fun _ => (nodes_printed.l0 k a1 ([] : List (List Int)) l0_2 (l0_2.length : Int) 0 a0_0 l0_1 l0_2)) else (if (l0_2.length : Int) = 0 then ((nodes_right.f k a0_0 l0_1).bind fun t271 => ((nodes_must.f t271 43 0).bind fun _ => ((tlv_Put.f a0_0 l0_1).bind fun bt272 => ((nodes_must.f (bt272.2 == 0) bt272.2 0).bind fun _ => (some bt272.1))))) else ((nodes_must.f false 43 0).bind fun _ => ((tlv_Put.f a0_0 l0_1).bind fun bt276 => ((nodes_must.f (bt276.2 == 0) bt276.2 0).bind fun _ => (some bt276.1))))))))) = some r := h
 clear h
 replace H := Option.bind_eq_some_iff.mp H
 obtain ⟨_, A30, H⟩ := H
 replace H : ((nodes_tagged.f k a0_0 0).bind fun _ => ((nodes_compound.f a0_0).bind fun t270 => (if t270 = true then ((nodes_must.f ((l0_1.length : Int) == 0) 43 0).bind fun _ => (nodes_printed.l0 k a1 ([] : List (List Int)) l0_2 (l0_2.length : Int) 0 a0_0 l0_1 l0_2)) else (if (l0_2.length : Int) = 0 then ((nodes_right.f k a0_0 l0_1).bind fun t271 => ((nodes_must.f t271 43 0).bind fun _ => ((tlv_Put.f a0_0 l0_1).bind fun bt272 => ((nodes_must.f (bt272.2 == 0) bt272.2 0).bind fun _ => (some bt272.1))))) else ((nodes_must.f false 43 0).bind fun _ => ((tlv_Put.f a0_0 l0_1).bind fun bt276 => ((nodes_must.f (bt276.2 == 0) bt276.2 0).bind fun _ => (some bt276.1)))))))) = some r := H
 have A3 := Aside0.mk A30
 clear A30
 replace H := Option.bind_eq_some_iff.mp H
 obtain ⟨_, A40, H⟩ := H
 replace H : ((nodes_compound.f a0_0).bind fun t270 => (if t270 = true then ((nodes_must.f ((l0_1.length : Int) == 0) 43 0).bind fun _ => (nodes_printed.l0 k a1 ([] : List (List Int)) l0_2 (l0_2.length : Int) 0 a0_0 l0_1 l0_2)) else (if (l0_2.length : Int) = 0 then ((nodes_right.f k a0_0 l0_1).bind fun t271 => ((nodes_must.f t271 43 0).bind fun _ => ((tlv_Put.f a0_0 l0_1).bind fun bt272 => ((nodes_must.f (bt272.2 == 0) bt272.2 0).bind fun _ => (some bt272.1))))) else ((nodes_must.f false 43 0).bind fun _ => ((tlv_Put.f a0_0 l0_1).bind fun bt276 => ((nodes_must.f (bt276.2 == 0) bt276.2 0).bind fun _ => (some bt276.1))))))) = some r := H
 have A4 := Aside0.mk A40
 clear A40
 replace H := Option.bind_eq_some_iff.mp H
 obtain ⟨t270, A50, H⟩ := H
 replace H : (if t270 = true then ((nodes_must.f ((l0_1.length : Int) == 0) 43 0).bind fun _ => (nodes_printed.l0 k a1 ([] : List (List Int)) l0_2 (l0_2.length : Int) 0 a0_0 l0_1 l0_2)) else (if (l0_2.length : Int) = 0 then ((nodes_right.f k a0_0 l0_1).bind fun t271 => ((nodes_must.f t271 43 0).bind fun _ => ((tlv_Put.f a0_0 l0_1).bind fun bt272 => ((nodes_must.f (bt272.2 == 0) bt272.2 0).bind fun _ => (some bt272.1))))) else ((nodes_must.f false 43 0).bind fun _ => ((tlv_Put.f a0_0 l0_1).bind fun bt276 => ((nodes_must.f (bt276.2 == 0) bt276.2 0).bind fun _ => (some bt276.1)))))) = some r := H
 have A5 := Aside0.mk A50
 clear A50
 by_cases c6 : t270 = true
 ·subst c6
  have H1 : ((nodes_must.f ((l0_1.length : Int) == 0) 43 0).bind fun _ => (nodes_printed.l0 k a1 ([] : List (List Int)) l0_2 (l0_2.length : Int) 0 a0_0 l0_1 l0_2)) = some r := by rw [if_pos rfl] at H; exact H
  clear H
  have H := H1
  clear H1
  replace H := Option.bind_eq_some_iff.mp H
  obtain ⟨_, A70, H⟩ := H
  replace H : (nodes_printed.l0 k a1 ([] : List (List Int)) l0_2 (l0_2.length : Int) 0 a0_0 l0_1 l0_2) = some r := H
  have A7 := Aside0.mk A70
  clear A70
  have H' := Aside0.mk H
  clear H
  go_enter Tryd.func19, Tryd.ntmps19
  go_wp2_with (first | ((with_reducible refine gate_dst (N := 2) rfl ?_); refine box_event ?hg (N := 2) ?hd (cs := #[.int .u8 a0_0, .slice A0_1 l0_1.length c0_1, .slice A0_2 l0_2.length c0_2]) (t := 45) ?hr ?_; (case hd => rfl); (case hg => rfl); (case hr => first | (go_simp; done) | (go_simp; rfl)); intro gb269 hg w8 hbox hb; have n0_ := Aside0.mk (below_step (by repeat (first | (with_reducible first | exact HB.out | apply below_alloc | apply pw_below_drewN | apply below_drew1) | exact HB.out)) hb); have n1_ := Aside0.mk (hbox); have n2_ := Aside0.mk ((by rw [hg]; exact (below_size (by repeat (first | (with_reducible first | exact HB.out | apply below_alloc | apply pw_below_drewN | apply below_drew1) | exact HB.out))) : w.heap.size ≤ gb269)); have n3_ := Aside0.mk ((by rw [hg]; exact (below_size (by repeat (first | (with_reducible first | exact HB.out | apply below_alloc | apply pw_below_drewN | apply below_drew1) | exact HB.out))) : w.heap.size ≤ gb269)); clear HB; have HB := n0_; have BK269 := n1_; have GW269 := n2_; have GE269 := n3_; clear n0_ n1_ n2_ n3_; clear hb hbox hg) | ((with_reducible refine gate_callee (f := 36) rfl ?_); refine goesL_ (some 14) rfl rfl Tryd.func36 (by kernel_rfl) rfl #[.bool (decide (a1 < 32)), .int .i64 41, .int .i64 0] rfl (by (try simp only [List.map_toArray, List.map_cons, List.map_nil]); first | done | rfl | (simp only [List.length_drop, List.length_take]; rfl)) ?_; (with_reducible refine (nodes_must.calls (decide (a1 < 32)) 41 0  _ A3.out).mono ?_); rintro e w' ⟨rfl, ⟨nd, rfl⟩⟩; refine ⟨_, rfl, ?_⟩; have hcz9_0 : w8.cell? ⟨gb269, 0, none⟩ = some (.int .u8 a0_0) := (blk_cell BK269.out 0).trans rfl; have hcz9_1 : w8.cell? ⟨gb269, 1, none⟩ = some (.slice A0_1 l0_1.length c0_1) := (blk_cell BK269.out 1).trans rfl; have hcz9_2 : w8.cell? ⟨gb269, 2, none⟩ = some (.slice A0_2 l0_2.length c0_2) := (blk_cell BK269.out 2).trans rfl; have hfz9_0 := blk_frozen BK269.out 0; have hfz9_1 := blk_frozen BK269.out 1; have hfz9_2 := blk_frozen BK269.out 2) | ((with_reducible refine gate_callee (f := 37) rfl ?_); refine goesL_ (some 17) rfl rfl Tryd.func37 (by kernel_rfl) rfl #[.int .u8 a0_0, .int .i64 0] rfl (by (try simp only [List.map_toArray, List.map_cons, List.map_nil]); first | done | rfl | (simp only [List.length_drop, List.length_take]; rfl)) ?_; (with_reducible refine (nodes_tagged.calls k a0_0 0  _ A4.out).mono ?_); rintro e w10 ⟨rfl, hb⟩; refine ⟨_, rfl, ?_⟩; have n0_ := Aside0.mk (blk_below (g := gb269) (o := .cells #[.int .u8 a0_0, .slice A0_1 l0_1.length c0_1, .slice A0_2 l0_2.length c0_2] 45 (0, 0)) (by (with_reducible repeat (first | refine blk_drewN ?_ _ | refine blk_drew ?_ | refine blk_alloc ?_ _)); exact BK269.out) hb); have n1_ := Aside0.mk (below_step (by repeat (first | (with_reducible first | exact HB.out | apply below_alloc | apply pw_below_drewN | apply below_drew1 | refine below_set ?_ GE269.out) | exact HB.out)) hb); clear BK269; clear HB; have BK269 := n0_; have HB := n1_; clear n0_ n1_; (try clear hb); (try clear hb2); (try clear hk); (try clear hi); have hcz11_0 : w10.cell? ⟨gb269, 0, none⟩ = some (.int .u8 a0_0) := (blk_cell BK269.out 0).trans rfl; have hcz11_1 : w10.cell? ⟨gb269, 1, none⟩ = some (.slice A0_1 l0_1.length c0_1) := (blk_cell BK269.out 1).trans rfl; have hcz11_2 : w10.cell? ⟨gb269, 2, none⟩ = some (.slice A0_2 l0_2.length c0_2) := (blk_cell BK269.out 2).trans rfl; have hfz11_0 := blk_frozen BK269.out 0; have hfz11_1 := blk_frozen BK269.out 1; have hfz11_2 := blk_frozen BK269.out 2) | ((with_reducible refine gate_callee (f := 38) rfl ?_); refine goesL_ (some 20) rfl rfl Tryd.func38 (by kernel_rfl) rfl #[.int .u8 a0_0] rfl (by (try simp only [List.map_toArray, List.map_cons, List.map_nil]); first | done | rfl | (simp only [List.length_drop, List.length_take]; rfl)) ?_; (with_reducible refine (nodes_compound.calls a0_0 true _ A5.out).mono ?_); rintro e w' ⟨rfl, ⟨nd, rfl⟩⟩; refine ⟨_, rfl, ?_⟩) | ((with_reducible refine gate_callee (f := 36) rfl ?_); refine goesL_ (some 51) rfl rfl Tryd.func36 (by kernel_rfl) rfl #[.bool ((l0_1.length : Int) == 0), .int .i64 43, .int .i64 0] rfl (by (try simp only [List.map_toArray, List.map_cons, List.map_nil]); first | done | rfl | (simp only [List.length_drop, List.length_take]; rfl)) ?_; (with_reducible refine (nodes_must.calls ((l0_1.length : Int) == 0) 43 0  _ A7.out).mono ?_); rintro e w' ⟨rfl, ⟨nd, rfl⟩⟩; refine ⟨_, rfl, ?_⟩))
  go_loopg [7, 55] k (fun kq v7 v55 w' => ∃ (x7_1 : List (List Int)) (x55_1 : Int), v55 = .int .i64 x55_1 ∧ Aside0 (nodes_printed.l0 kq a1 x7_1 l0_2 (l0_2.length : Int) x55_1 a0_0 l0_1 l0_2 = some r) ∧ Aside0 (kq ≤ k) ∧ Aside0 (Kd.S (Kd.slice 5 (Kd.int .u8)) 25 w' w.heap.size (fun _ => True) v7 x7_1) ∧ Aside0 (w'.heap[gb269]? = some (.cells #[.int .u8 a0_0, (.slice A0_1 l0_1.length c0_1), (.slice A0_2 l0_2.length c0_2)] 45 (0, 0))) ∧ Aside0 (Below w.heap.size w w'))
  case atStart => exact ⟨(([] : List (List Int))), (0), (by first | rfl | (simp; done) | (simp [*]; done)), H', ⟨Nat.le_refl _⟩, ⟨by first | exact Kd.S_nil _ _ _ _ _ | exact Kd.N_nil _ _ _ _ _ | exact Kd.V_nil _ _ _ _ _ | exact Kd.Q_nil _ _ _ _ _ | exact Kd.R_nil _ _ _ _ _⟩, ⟨by (with_reducible repeat (first | refine blk_drewN ?_ _ | refine blk_drew ?_ | refine blk_alloc ?_ _)); exact BK269.out⟩, ⟨by repeat (first | (with_reducible first | exact HB.out | apply below_alloc | apply pw_below_drewN | apply below_drew1 | refine below_set ?_ GE269.out) | exact HB.out)⟩⟩
  case round =>
   clear H'
   try clear c1
   try clear p2
   try clear c3
   try clear c6
   try clear hcz11_0
   try clear hcz11_1
   try clear hcz11_2
   try clear hcz9_0
   try clear hcz9_1
   try clear hcz9_2
   try clear hfz11_0
   try clear hfz11_1
   try clear hfz11_2
   try clear hfz9_0
   try clear hfz9_1
   try clear hfz9_2
   obtain ⟨x7_1, x55_1, rfl, HA, HK1, HO_7, BK269, HB⟩ := hrel
   cases gk with
   | zero => exact absurd HA.out (by simp [nodes_printed.l0])
   | succ k1 =>
    have H := HA.out
    clear HA
    simp only [nodes_printed.l0] at H
    by_cases c12 : x55_1 < (l0_2.length : Int)
    ·rw [if_pos c12] at H
     have c12b0 : decide (x55_1 < (l0_2.length : Int)) = true := decide_eq_true c12
     clear c12
     by_cases c13 : 0 ≤ x55_1
     ·rw [if_pos c13] at H
      have c13b0 : decide (0 ≤ x55_1) = true := decide_eq_true c13
      clear c13
      by_cases c14 : x55_1 < (l0_2.length : Int)
      ·rw [if_pos c14] at H
       have c14b0 : decide (x55_1 < (l0_2.length : Int)) = true := decide_eq_true c14
       clear c14
       replace H := Option.bind_eq_some_iff.mp H
       obtain ⟨t282, A150, H⟩ := H
       replace H : (if x7_1.length < 5864062014805 then (nodes_printed.l0 k1 a1 (x7_1 ++ [t282]) l0_2 (l0_2.length : Int) (wrap64 (x55_1 + 1)) a0_0 l0_1 l0_2) else (none)) = some r := H
       have A15 := Aside0.mk A150
       clear A150
       by_cases c16 : x7_1.length < 5864062014805
       ·rw [if_pos c16] at H
        have LMc16 := Aside0.mk c16
        clear c16
        obtain ⟨y285, hy285⟩ : ∃ y_ : List (List Int), y_ = (x7_1 ++ [t282]) := ⟨_, rfl⟩
        replace H : (nodes_printed.l0 k1 a1 y285 l0_2 (l0_2.length : Int) (wrap64 (x55_1 + 1)) a0_0 l0_1 l0_2) = some r := by first | (rw [hy285]; with_reducible exact H) | (have H2_ := (Option.bind_some _ _).symm.trans H; rw [hy285]; with_reducible exact H2_) | (have H2_ := (Option.bind_some _ _).symm.trans H; with_reducible exact H2_) | with_reducible exact H | (rw [hy285]; exact H) | exact H
        have Ny285 := Aside0.mk hy285
        clear hy285
        have H' := Aside0.mk H
        clear H
        have p280 : 0 ≤ (x55_1 : Int) := of_decide_eq_true (by first | (with_reducible assumption) | assumption)
        have q280 : x55_1 < (l0_2.length : Int) := of_decide_eq_true (by first | (with_reducible assumption) | assumption)
        obtain ⟨ad280, A280_1, c280_1, A280_2, c280_2, e280, hx280_0, hx280_1, hx280_2, hl280_1, hi280_1, hl280_2, hi280_2⟩ := at_T45 HR0_2.out x55_1 p280 q280
        cases e280
        replace hx280_0 := (HB.out.cell (World.block_lt_of_cell? w _ hx280_0)).trans hx280_0
        replace hx280_1 := (HB.out.cell (World.block_lt_of_cell? w _ hx280_1)).trans hx280_1
        replace hx280_2 := (HB.out.cell (World.block_lt_of_cell? w _ hx280_2)).trans hx280_2
        have HR280_1 := Aside0.mk hi280_1
        have HC280_1 := Aside0.mk hl280_1
        clear hi280_1 hl280_1
        have HR280_2 := Aside0.mk hi280_2
        have HC280_2 := Aside0.mk hl280_2
        clear hi280_2 hl280_2
        replace p280 := eq_true p280
        replace q280 := eq_true q280
        go_wp2_with (first | ((with_reducible refine gate_dst (N := 9) rfl ?_); refine box_event ?hg (N := 9) ?hd (cs := #[.int .u8 0, .slice none 0 0, .slice none 0 0]) (t := 45) ?hr ?_; (case hd => rfl); (case hg => rfl); (case hr => first | (go_simp; done) | (go_simp; rfl)); intro gb281 hg w17 hbox hb; have n0_ := Aside0.mk (Kd.S_below (by (with_reducible repeat (first | apply Kd.S_alloc | apply Kd.S_drewN | apply Kd.S_drew)); exact HO_7.out) hb); have n1_ := Aside0.mk (blk_below (g := gb269) (o := .cells #[.int .u8 a0_0, .slice A0_1 l0_1.length c0_1, .slice (some ad280) l0_2.length c0_2] 45 (0, 0)) (by (with_reducible repeat (first | refine blk_drewN ?_ _ | refine blk_drew ?_ | refine blk_alloc ?_ _)); exact BK269.out) hb); have n2_ := Aside0.mk (below_step (by repeat (first | (with_reducible first | exact HB.out | apply below_alloc | apply pw_below_drewN | apply below_drew1 | refine below_set ?_ GE269.out) | exact HB.out)) hb); have n3_ := Aside0.mk (hbox); have n4_ := Aside0.mk ((by rw [hg]; exact (below_size (by repeat (first | (with_reducible first | exact HB.out | apply below_alloc | apply pw_below_drewN | apply below_drew1 | refine below_set ?_ GE269.out) | exact HB.out))) : w.heap.size ≤ gb281)); have n5_ := Aside0.mk ((by rw [hg]; exact (below_size (by repeat (first | (with_reducible first | exact HB.out | apply below_alloc | apply pw_below_drewN | apply below_drew1 | refine below_set ?_ GE269.out) | exact HB.out))) : w.heap.size ≤ gb281)); have n6_ := Aside0.mk ((by rw [hg]; exact Nat.ne_of_lt (blk_lt (g := gb269) (o := .cells #[.int .u8 a0_0, .slice A0_1 l0_1.length c0_1, .slice (some ad280) l0_2.length c0_2] 45 (0, 0)) (by (with_reducible repeat (first | refine blk_drewN ?_ _ | refine blk_drew ?_ | refine blk_alloc ?_ _)); exact BK269.out)) : gb269 ≠ gb281)); have n7_ := Aside0.mk ((by rw [hg]; exact Nat.ne_of_gt (blk_lt (g := gb269) (o := .cells #[.int .u8 a0_0, .slice A0_1 l0_1.length c0_1, .slice (some ad280) l0_2.length c0_2] 45 (0, 0)) (by (with_reducible repeat (first | refine blk_drewN ?_ _ | refine blk_drew ?_ | refine blk_alloc ?_ _)); exact BK269.out)) : gb281 ≠ gb269)); clear HO_7; clear BK269; clear HB; have HO_7 := n0_; have BK269 := n1_; have HB := n2_; have BK281 := n3_; have GW281 := n4_; have GE281 := n5_; have NB269_281 := n6_; have NB281_269 := n7_; clear n0_ n1_ n2_ n3_ n4_ n5_ n6_ n7_; clear hb hbox hg; have hnb18 := NB281_269.out; have hnc18 := NB269_281.out; have hcz19_0 : w17.cell? ⟨gb281, 0, none⟩ = some (.int .u8 0) := (blk_cell BK281.out 0).trans rfl; have hcz19_1 : w17.cell? ⟨gb281, 1, none⟩ = some (.slice none 0 0) := (blk_cell BK281.out 1).trans rfl; have hcz19_2 : w17.cell? ⟨gb281, 2, none⟩ = some (.slice none 0 0) := (blk_cell BK281.out 2).trans rfl; have hfz19_0 := blk_frozen BK281.out 0; have hfz19_1 := blk_frozen BK281.out 1; have hfz19_2 := blk_frozen BK281.out 2) | ((with_reducible refine gate_callee (f := 19) rfl ?_); refine goesL_ (some 63) rfl rfl Tryd.func19 (by kernel_rfl) rfl #[.agg #[.int .u8 ((rd_T45 l0_2 x55_1).f0), .slice A280_1 ((rd_T45 l0_2 x55_1).f1).length c280_1, .slice A280_2 ((rd_T45 l0_2 x55_1).f2).length c280_2], .int .i64 (wrap64 (a1 + 1))] rfl (by (try simp only [List.map_toArray, List.map_cons, List.map_nil]); first | done | rfl | (simp only [List.length_drop, List.length_take]; rfl)) ?_; (with_reducible refine (ih k1 (by have := HK1.out; omega) ((rd_T45 l0_2 x55_1).f0) _ _ ((rd_T45 l0_2 x55_1).f1) _ _ ((rd_T45 l0_2 x55_1).f2) (wrap64 (a1 + 1)) t282 _ ?side1 ?side2 ?side3 ?side4 A15.out).mono ?_); (case side1 => exact Kd.C_below HR280_1.out (by repeat (first | (with_reducible first | exact HB.out | apply below_alloc | apply pw_below_drewN | apply below_drew1 | refine below_set ?_ GE269.out | refine below_set ?_ GE281.out) | exact HB.out))); (case side2 => exact HC280_1.out); (case side3 => exact Kd.C_below HR280_2.out (by repeat (first | (with_reducible first | exact HB.out | apply below_alloc | apply pw_below_drewN | apply below_drew1 | refine below_set ?_ GE269.out | refine below_set ?_ GE281.out) | exact HB.out))); (case side4 => exact HC280_2.out); rintro e w20 ⟨v283, rfl, ho0, hb⟩; refine ⟨_, rfl, ?_⟩; have n0_ := Aside0.mk (Kd.S_elder' (by (with_reducible repeat (first | apply Kd.S_alloc | apply Kd.S_drewN | apply Kd.S_drew)); exact (Kd.S_mono (Kd.S_far (p := ⟨gb281, 2, none⟩) (Kd.S_far (p := ⟨gb281, 1, none⟩) (Kd.S_far (p := ⟨gb281, 0, none⟩) (Kd.S_types HO_7.out BK281.out (by decide)) (fun _ hk => hk.2) (.int .u8 ((rd_T45 l0_2 x55_1).f0))) (fun _ hk => hk.2) (.slice A280_1 ((rd_T45 l0_2 x55_1).f1).length c280_1)) (fun _ hk => hk.2) (.slice A280_2 ((rd_T45 l0_2 x55_1).f2).length c280_2)) (fun _ h_ => h_.1))) (Kd.R_base ho0) hb); have n1_ := Aside0.mk (Kd.R_lower ho0 (below_size (by repeat (first | (with_reducible first | exact HB.out | apply below_alloc | apply pw_below_drewN | apply below_drew1 | refine below_set ?_ GE269.out | refine below_set ?_ GE281.out) | exact HB.out)))); have n2_ := Aside0.mk (blk_below (g := gb269) (o := .cells #[.int .u8 a0_0, .slice A0_1 l0_1.length c0_1, .slice (some ad280) l0_2.length c0_2] 45 (0, 0)) (by (with_reducible repeat (first | refine blk_drewN ?_ _ | refine blk_drew ?_ | refine blk_alloc ?_ _)); refine blk_far ?_ NB269_281.out _; (with_reducible repeat (first | refine blk_drewN ?_ _ | refine blk_drew ?_ | refine blk_alloc ?_ _)); refine blk_far ?_ NB269_281.out _; (with_reducible repeat (first | refine blk_drewN ?_ _ | refine blk_drew ?_ | refine blk_alloc ?_ _)); refine blk_far ?_ NB269_281.out _; (with_reducible repeat (first | refine blk_drewN ?_ _ | refine blk_drew ?_ | refine blk_alloc ?_ _)); exact BK269.out) hb); have n3_ := Aside0.mk (blk_below (g := gb281) (o := .cells #[.int .u8 ((rd_T45 l0_2 x55_1).f0), .slice A280_1 ((rd_T45 l0_2 x55_1).f1).length c280_1, .slice A280_2 ((rd_T45 l0_2 x55_1).f2).length c280_2] 45 (0, 0)) (by (with_reducible repeat (first | refine blk_drewN ?_ _ | refine blk_drew ?_ | refine blk_alloc ?_ _)); refine blk_put (cs := #[.int .u8 ((rd_T45 l0_2 x55_1).f0), .slice A280_1 ((rd_T45 l0_2 x55_1).f1).length c280_1, .slice none 0 0]) ?_ 2 _ rfl; (with_reducible repeat (first | refine blk_drewN ?_ _ | refine blk_drew ?_ | refine blk_alloc ?_ _)); refine blk_put (cs := #[.int .u8 ((rd_T45 l0_2 x55_1).f0), .slice none 0 0, .slice none 0 0]) ?_ 1 _ rfl; (with_reducible repeat (first | refine blk_drewN ?_ _ | refine blk_drew ?_ | refine blk_alloc ?_ _)); refine blk_put (cs := #[.int .u8 0, .slice none 0 0, .slice none 0 0]) ?_ 0 _ rfl; (with_reducible repeat (first | refine blk_drewN ?_ _ | refine blk_drew ?_ | refine blk_alloc ?_ _)); exact BK281.out) hb); have n4_ := Aside0.mk (below_step (by repeat (first | (with_reducible first | exact HB.out | apply below_alloc | apply pw_below_drewN | apply below_drew1 | refine below_set ?_ GE269.out | refine below_set ?_ GE281.out) | exact HB.out)) hb); clear HO_7; clear BK269; clear BK281; clear HB; have HO_7 := n0_; have HO284 := n1_; have BK269 := n2_; have BK281 := n3_; have HB := n4_; clear n0_ n1_ n2_ n3_ n4_; (try clear hb); (try clear hb2); (try clear hk); (try clear hi); (try clear ho0); obtain ⟨Ao22, co22, eo22⟩ := Kd.R_slice HO284.out; subst eo22) | ((with_reducible refine gate_builtin (b := .append) (xs := #[.tmp 59, .tmp 64]) rfl ?_); at_builtin; refine Kd.S_append (Kd.slice 5 (Kd.int .u8)) (w0 := w) w.heap.size rfl (.tmp 59) (.tmp 64) 87 25 (.slice none 0 0) 24 rfl Tryd.underlying87 info25 rfl (by decide) (by omega) u7 x7_1 t282 [.slice Ao22 t282.length co22] (fun _ => True) (fun k_ => some k_ = (.slice Ao22 t282.length co22 : Value).ownBlock) rfl rfl ?aP (fun k_ hk_ => ((Kd.R_mono (ok' := fun k_ => ((fun _ => True)) k_ ∧ some k_ ≠ (u7 : Value).ownBlock) (Kd.R_apart' (HO284.out) (Kd.S_typed HO_7.out) (by decide)) (fun k_ hk => ⟨trivial, hk.2⟩))).1 k_ hk_.symm) ?aF ?aO ?aB ?aS ?aL ?_; (case aP => exact Kd.M_row (Kd.R_mono (Kd.R_tight rfl (Kd.R_mono (ok' := fun k_ => ((fun _ => True)) k_ ∧ some k_ ≠ (u7 : Value).ownBlock) (Kd.R_apart' (HO284.out) (Kd.S_typed HO_7.out) (by decide)) (fun k_ hk => ⟨trivial, hk.2⟩))) (fun _ h_ => h_))); (case aB => exact (by repeat (first | (with_reducible first | exact HB.out | apply below_alloc | apply pw_below_drewN | apply below_drew1 | refine below_set ?_ GE269.out | refine below_set ?_ GE281.out) | exact HB.out))); (case aF => exact (fun _ _ => trivial)); (case aO => exact (by (with_reducible repeat (first | apply Kd.S_alloc | apply Kd.S_drewN | apply Kd.S_drew)); exact Kd.S_mono HO_7.out (fun k_ hk => ⟨trivial, fun e_ => hk.2 e_⟩))); (case aS => exact (below_size (by repeat (first | (with_reducible first | exact HB.out | apply below_alloc | apply pw_below_drewN | apply below_drew1 | refine below_set ?_ GE269.out | refine below_set ?_ GE281.out) | exact HB.out)))); (case aL => have := LMc16.out; omega); intro v286 w21 ho hb hg hat; rw [← Ny285.out] at ho; have n0_ := Aside0.mk (blk_grown (g := gb269) (o := .cells #[.int .u8 a0_0, .slice A0_1 l0_1.length c0_1, .slice (some ad280) l0_2.length c0_2] 45 (0, 0)) (by (with_reducible repeat (first | refine blk_drewN ?_ _ | refine blk_drew ?_ | refine blk_alloc ?_ _)); exact BK269.out) hg (Kd.S_ne HO_7.out BK269.out (by decide))); have n1_ := Aside0.mk (blk_grown (g := gb281) (o := .cells #[.int .u8 ((rd_T45 l0_2 x55_1).f0), .slice A280_1 ((rd_T45 l0_2 x55_1).f1).length c280_1, .slice A280_2 ((rd_T45 l0_2 x55_1).f2).length c280_2] 45 (0, 0)) (by (with_reducible repeat (first | refine blk_drewN ?_ _ | refine blk_drew ?_ | refine blk_alloc ?_ _)); exact BK281.out) hg (Kd.S_ne HO_7.out BK281.out (by decide))); have n2_ := Aside0.mk (hb); have n3_ := Aside0.mk (ho); clear BK269; clear BK281; clear HB; clear HO_7; clear HO284; have BK269 := n0_; have BK281 := n1_; have HB := n2_; have HO287 := n3_; clear n0_ n1_ n2_ n3_; clear ho hb hg hat))
        go_roundg k1
        case measure => have := HK1.out; omega
        case rel => exact ⟨(y285), (wrap64 (x55_1 + 1)), (by first | rfl | (simp; done) | (simp [*]; done)), H', ⟨by have := HK1.out; omega⟩, ⟨by (with_reducible repeat (first | apply Kd.S_alloc | apply Kd.S_drewN | apply Kd.S_drew)); exact HO287.out⟩, ⟨by (with_reducible repeat (first | refine blk_drewN ?_ _ | refine blk_drew ?_ | refine blk_alloc ?_ _)); exact BK269.out⟩, ⟨by repeat (first | (with_reducible first | exact HB.out | apply below_alloc | apply pw_below_drewN | apply below_drew1 | refine below_set ?_ GE269.out | refine below_set ?_ GE281.out) | exact HB.out)⟩⟩
       ·rw [if_neg c16] at H
        exact absurd H (by simp)
      ·rw [if_neg c14] at H
       exact absurd H (by simp)
     ·rw [if_neg c13] at H
      exact absurd H (by simp)
    ·rw [if_neg c12] at H
     have c12b0 : decide (x55_1 < (l0_2.length : Int)) = false := decide_eq_false c12
     clear c12
     replace H := Option.bind_eq_some_iff.mp H
     obtain ⟨_, A230, H⟩ := H
     replace H : ((slices_Concat_byte_byte.f x7_1).bind fun t288 => ((tlv_Put.f a0_0 t288).bind fun bt291 => ((nodes_must.f (bt291.2 == 0) bt291.2 0).bind fun _ => (some bt291.1)))) = some r := H
     have A23 := Aside0.mk A230
     clear A230
     replace H := Option.bind_eq_some_iff.mp H
     obtain ⟨t288, A240, H⟩ := H
     replace H : ((tlv_Put.f a0_0 t288).bind fun bt291 => ((nodes_must.f (bt291.2 == 0) bt291.2 0).bind fun _ => (some bt291.1))) = some r := H
     have A24 := Aside0.mk A240
     clear A240
     replace H := Option.bind_eq_some_iff.mp H
     obtain ⟨⟨t291, t292⟩, A250, H⟩ := H
     replace H : ((nodes_must.f (t292 == 0) t292 0).bind fun _ => (some t291)) = some r := H
     have A25 := Aside0.mk A250
     clear A250
     replace H := Option.bind_eq_some_iff.mp H
     obtain ⟨_, A260, H⟩ := H
     replace H : (some t291) = some r := H
     have A26 := Aside0.mk A260
     clear A260
     obtain rfl := Option.some.inj H
     have hcz27_0 : wr.cell? ⟨gb269, 0, none⟩ = some (.int .u8 a0_0) := (blk_cell BK269.out 0).trans rfl
     have hcz27_1 : wr.cell? ⟨gb269, 1, none⟩ = some (.slice A0_1 l0_1.length c0_1) := (blk_cell BK269.out 1).trans rfl
     have hcz27_2 : wr.cell? ⟨gb269, 2, none⟩ = some (.slice A0_2 l0_2.length c0_2) := (blk_cell BK269.out 2).trans rfl
     have hfz27_0 := blk_frozen BK269.out 0
     have hfz27_1 := blk_frozen BK269.out 1
     have hfz27_2 := blk_frozen BK269.out 2
     obtain ⟨Ao28, co28, eo28⟩ := Kd.S_slice HO_7.out
     subst eo28
     try go_wp2_with (first | ((with_reducible refine gate_callee (f := 41) rfl ?_); refine goesL_ (some 70) rfl rfl Tryd.func41 (by kernel_rfl) rfl #[.int .u8 a0_0, .slice Ao28 x7_1.length co28, .int .i64 0] rfl (by (try simp only [List.map_toArray, List.map_cons, List.map_nil]); first | done | rfl | (simp only [List.length_drop, List.length_take]; rfl)) ?_; (with_reducible refine (nodes_rise.calls a0_0 _ _ x7_1 0  _ ?side1 ?side2 A23.out).mono ?_); (case side1 => repeat (first | exact (Kd.S_reads' HO_7.out).2.2 | (with_reducible refine Kd.C_alloc ?_ _) | (with_reducible refine Kd.C_drewN ?_ _) | (with_reducible refine Kd.C_drew ?_))); (case side2 => exact (Kd.S_reads' HO_7.out).2.1); rintro e w' ⟨rfl, ⟨nd, rfl⟩⟩; refine ⟨_, rfl, ?_⟩))
     (try (rw [drewN_self wr]; generalize hq_ : World.drewN wr _ = wr; have n0_ : Aside0 (Kd.S (Kd.slice 5 (Kd.int .u8)) 25 wr w.heap.size (fun _ => True) (.slice Ao28 x7_1.length co28) x7_1) := ⟨by rw [← hq_]; exact (by (with_reducible repeat (first | apply Kd.S_alloc | apply Kd.S_drewN | apply Kd.S_drew)); exact HO_7.out)⟩; have n1_ : Aside0 (wr.heap[gb269]? = some (.cells #[.int .u8 a0_0, .slice A0_1 l0_1.length c0_1, .slice A0_2 l0_2.length c0_2] 45 (0, 0))) := ⟨by rw [← hq_]; exact (by (with_reducible repeat (first | refine blk_drewN ?_ _ | refine blk_drew ?_ | refine blk_alloc ?_ _)); exact BK269.out)⟩; have n2_ : Aside0 (Below w.heap.size w wr) := ⟨by rw [← hq_]; exact (by repeat (first | (with_reducible first | exact HB.out | apply below_alloc | apply pw_below_drewN | apply below_drew1 | refine below_set ?_ GE269.out) | exact HB.out))⟩; clear HO_7 BK269 HB hq_; have HO_7 := n0_; have BK269 := n1_; have HB := n2_; clear n0_ n1_ n2_))
     have n0_ := Aside0.mk (Kd.S_drew HO_7.out)
     have n1_ := Aside0.mk (blk_drew BK269.out)
     have n2_ := Aside0.mk (below_drew1 HB.out)
     clear HO_7
     clear BK269
     clear HB
     have HO_7 := n0_
     have BK269 := n1_
     have HB := n2_
     clear n0_ n1_ n2_
     refine start_ (n := 10) (S := fun w' => w'.cell? ⟨gb269, 0, none⟩ = some (.int .u8 a0_0) ∧ w'.cell? ⟨gb269, 1, none⟩ = some (.slice A0_1 l0_1.length c0_1) ∧ w'.cell? ⟨gb269, 2, none⟩ = some (.slice A0_2 l0_2.length c0_2)) (ds := []) #[false, false, false, false, false, false, false, false, false, false] (by kernel_rfl) rfl rfl ⟨(blk_cell BK269.out 0).trans rfl, (blk_cell BK269.out 1).trans rfl, (blk_cell BK269.out 2).trans rfl⟩ (fun hHeld => ?_); refine with_tabW nodes_printed.tab16 nodes_printed.bits16 (fun HT_ HW_ => ?_)
     generalize wr.drew = w29 at HO_7 BK269 HB hHeld ⊢
     refine pure_ (i := 0) (N := some 72) (v := ?_) (a' := ?_) #[true, false, false, false, false, false, false, false, false, false] rfl rfl (any_of HT_.out (by kernel_rfl)) (fun _ _ _ h => h) (Or.inl ⟨by rfl, ?_⟩) ?_ ?_
     rotate_left
     ·intro w'
      go_simp
      with_reducible rfl
     rotate_left
     ·simp only [Act.put, List.setIfInBounds_toArray, List.set_cons_zero, List.set_cons_succ, i64_w, i32_w]
      rfl
     refine pure_ (i := 2) (N := some 74) (v := ?_) (a' := ?_) #[true, false, true, false, false, false, false, false, false, false] rfl rfl (any_of HT_.out (by kernel_rfl)) (fun _ _ _ h => h) (Or.inl ⟨by rfl, ?_⟩) ?_ ?_
     rotate_left
     ·intro w'
      go_simp
      with_reducible rfl
     rotate_left
     ·simp only [Act.put, List.setIfInBounds_toArray, List.set_cons_zero, List.set_cons_succ, i64_w, i32_w]
      rfl
     refine take_ (i := 1) (N := some 73) (v := ?_) (a' := ?_) #[true, true, true, false, false, false, false, false, false, false] rfl rfl (take_ofW HT_.out HW_.out (by kernel_rfl)) (fun _ _ _ h => h) (Or.inl ⟨by rfl, ?_⟩) hHeld ?_ ?_
     rotate_left
     ·rintro w' ⟨s0, s1, s2⟩
      go_simp
      with_reducible rfl
     rotate_left
     ·simp only [Act.put, List.setIfInBounds_toArray, List.set_cons_zero, List.set_cons_succ, i64_w, i32_w]
      rfl
     refine one_ (i := 3) (N := some 75) #[true, true, true, true, false, false, false, false, false, false] rfl rfl (one_of HT_.out (by kernel_rfl)) (by decide) (fun K hK => ?_)
     refine goes_ Tryd.func42 (by kernel_rfl) rfl #[.slice Ao28 x7_1.length co28] (by rfl) rfl rfl (by (try simp only [List.map_toArray, List.map_cons, List.map_nil]); first | done | rfl | (simp only [List.length_drop, List.length_take]; rfl)) ?_
     with_reducible refine (slices_Concat_byte_byte.calls _ _ x7_1 t288 _ ?side1 ?side2 A24.out).mono ?_
     (case side1 => repeat (first | exact (Kd.S_reads' HO_7.out).2.2 | (with_reducible refine Kd.C_alloc ?_ _) | (with_reducible refine Kd.C_drewN ?_ _) | (with_reducible refine Kd.C_drew ?_)))
     (case side2 => exact (Kd.S_reads' HO_7.out).2.1)
     rintro e w30 ⟨v289, rfl, ho0, hb⟩
     refine ⟨_, rfl, ?_⟩
     have n0_ := Aside0.mk (Kd.S_elder' (by (with_reducible repeat (first | apply Kd.S_alloc | apply Kd.S_drewN | apply Kd.S_drew)); exact HO_7.out) (Kd.R_base ho0) hb)
     have n1_ := Aside0.mk (Kd.R_lower ho0 (below_size (by repeat (first | (with_reducible first | exact HB.out | apply below_alloc | apply pw_below_drewN | apply below_drew1 | refine below_set ?_ GE269.out) | exact HB.out))))
     have n2_ := Aside0.mk (blk_below (g := gb269) (o := .cells #[.int .u8 a0_0, .slice A0_1 l0_1.length c0_1, .slice A0_2 l0_2.length c0_2] 45 (0, 0)) (by (with_reducible repeat (first | refine blk_drewN ?_ _ | refine blk_drew ?_ | refine blk_alloc ?_ _)); exact BK269.out) hb)
     have n3_ := Aside0.mk (below_step (by repeat (first | (with_reducible first | exact HB.out | apply below_alloc | apply pw_below_drewN | apply below_drew1 | refine below_set ?_ GE269.out) | exact HB.out)) hb)
     clear HO_7
     clear BK269
     clear HB
     have HO_7 := n0_
     have HO290 := n1_
     have BK269 := n2_
     have HB := n3_
     clear n0_ n1_ n2_ n3_
     (try clear hb)
     (try clear hb2)
     (try clear hk)
     (try clear hi)
     (try clear ho0)
     obtain ⟨Ao31, co31, eo31⟩ := Kd.R_slice HO290.out
     (first | subst eo31 | (injection eo31 with f1_ f2_ f3_; have f4_ := f1_.symm; have f5_ := f3_.symm; clear f1_ f2_ f3_; subst f4_; subst f5_))
     refine hK.out _ _ ⟨(blk_cell BK269.out 0).trans rfl, (blk_cell BK269.out 1).trans rfl, (blk_cell BK269.out 2).trans rfl⟩ (fun hHeld => ?_)
     clear hK K
     refine norm_ (a' := ?_) ?_ ?_
     rotate_left
     ·show Act.put _ (some 75) _ = _
      simp only [Act.put, List.setIfInBounds_toArray, List.set_cons_zero, List.set_cons_succ, i64_w, i32_w]
      rfl
     refine one_ (i := 4) (N := some 76) #[true, true, true, true, true, false, false, false, false, false] rfl rfl (one_of HT_.out (by kernel_rfl)) (by decide) (fun K hK => ?_)
     refine goes_ Tryd.func40 (by kernel_rfl) rfl #[.int .u8 a0_0, .slice Ao31 t288.length co31] (by rfl) rfl rfl (by (try simp only [List.map_toArray, List.map_cons, List.map_nil]); first | done | rfl | (simp only [List.length_drop, List.length_take]; rfl)) ?_
     with_reducible refine (tlv_Put.calls a0_0 _ _ t288 t291 t292 _ ?side1 ?side2 A25.out).mono ?_
     (case side1 => repeat (first | exact (Kd.R_reads' HO290.out).2.2 | (with_reducible refine Kd.C_alloc ?_ _) | (with_reducible refine Kd.C_drewN ?_ _) | (with_reducible refine Kd.C_drew ?_)))
     (case side2 => exact (Kd.R_reads' HO290.out).2.1)
     rintro e w32 ⟨v293, rfl, ho0, hb⟩
     refine ⟨_, rfl, ?_⟩
     have n0_ := Aside0.mk (Kd.S_elder' (by (with_reducible repeat (first | apply Kd.S_alloc | apply Kd.S_drewN | apply Kd.S_drew)); exact HO_7.out) (Kd.R_base ho0) hb)
     have n1_ := Aside0.mk (Kd.R_elder' (by (with_reducible repeat (first | apply Kd.R_alloc | apply Kd.R_drewN | apply Kd.R_drew)); exact HO290.out) (Kd.R_base ho0) hb)
     have n2_ := Aside0.mk (Kd.R_lower (Kd.R_new' ho0 (Kd.R_lt (by (with_reducible repeat (first | apply Kd.R_alloc | apply Kd.R_drewN | apply Kd.R_drew)); exact HO290.out))) (below_size (by repeat (first | (with_reducible first | exact HB.out | apply below_alloc | apply pw_below_drewN | apply below_drew1 | refine below_set ?_ GE269.out) | exact HB.out))))
     have n3_ := Aside0.mk (blk_below (g := gb269) (o := .cells #[.int .u8 a0_0, .slice A0_1 l0_1.length c0_1, .slice A0_2 l0_2.length c0_2] 45 (0, 0)) (by (with_reducible repeat (first | refine blk_drewN ?_ _ | refine blk_drew ?_ | refine blk_alloc ?_ _)); exact BK269.out) hb)
     have n4_ := Aside0.mk (below_step (by repeat (first | (with_reducible first | exact HB.out | apply below_alloc | apply pw_below_drewN | apply below_drew1 | refine below_set ?_ GE269.out) | exact HB.out)) hb)
     clear HO_7
     clear HO290
     clear BK269
     clear HB
     have HO_7 := n0_
     have HO290 := n1_
     have HO294 := n2_
     have BK269 := n3_
     have HB := n4_
     clear n0_ n1_ n2_ n3_ n4_
     (try clear hb)
     (try clear hb2)
     (try clear hk)
     (try clear hi)
     (try clear ho0)
     refine hK.out _ _ ⟨(blk_cell BK269.out 0).trans rfl, (blk_cell BK269.out 1).trans rfl, (blk_cell BK269.out 2).trans rfl⟩ (fun hHeld => ?_)
     clear hK K
     refine norm_ (a' := ?_) ?_ ?_
     rotate_left
     ·show Act.put _ (some 76) _ = _
      simp only [Act.put, List.setIfInBounds_toArray, List.set_cons_zero, List.set_cons_succ, i64_w, i32_w]
      rfl
     refine pure_ (i := 5) (N := some 71) (v := ?_) (a' := ?_) #[true, true, true, true, true, true, false, false, false, false] rfl rfl (any_of HT_.out (by kernel_rfl)) (fun _ _ _ h => h) (Or.inl ⟨by rfl, ?_⟩) ?_ ?_
     rotate_left
     ·intro w'
      go_simp
      with_reducible rfl
     rotate_left
     ·simp only [Act.put, List.setIfInBounds_toArray, List.set_cons_zero, List.set_cons_succ, i64_w, i32_w]
      rfl
     refine pure_ (i := 6) (N := some 77) (v := ?_) (a' := ?_) #[true, true, true, true, true, true, true, false, false, false] rfl rfl (any_of HT_.out (by kernel_rfl)) (fun _ _ _ h => h) (Or.inl ⟨by rfl, ?_⟩) ?_ ?_
     rotate_left
     ·intro w'
      go_simp
      with_reducible rfl
     rotate_left
     ·simp only [Act.put, List.setIfInBounds_toArray, List.set_cons_zero, List.set_cons_succ, i64_w, i32_w]
      rfl
     refine pure_ (i := 7) (N := some 78) (v := ?_) (a' := ?_) #[true, true, true, true, true, true, true, true, false, false] rfl rfl (any_of HT_.out (by kernel_rfl)) (fun _ _ _ h => h) (Or.inl ⟨by rfl, ?_⟩) ?_ ?_
     rotate_left
     ·intro w'
      go_simp
      with_reducible rfl
     rotate_left
     ·simp only [Act.put, List.setIfInBounds_toArray, List.set_cons_zero, List.set_cons_succ, i64_w, i32_w]
      rfl
     refine pure_ (i := 8) (N := some 10) (v := ?_) (a' := ?_) #[true, true, true, true, true, true, true, true, true, false] rfl rfl (any_of HT_.out (by kernel_rfl)) (fun _ _ _ h => h) (Or.inl ⟨by rfl, ?_⟩) ?_ ?_
     rotate_left
     ·intro w'
      go_simp
      with_reducible rfl
     rotate_left
     ·simp only [Act.put, List.setIfInBounds_toArray, List.set_cons_zero, List.set_cons_succ, i64_w, i32_w]
      rfl
     refine pure_ (i := 9) (N := some 11) (v := ?_) (a' := ?_) #[true, true, true, true, true, true, true, true, true, true] rfl rfl (any_of HT_.out (by kernel_rfl)) (fun _ _ _ h => h) (Or.inl ⟨by rfl, ?_⟩) ?_ ?_
     rotate_left
     ·intro w'
      go_simp
      with_reducible rfl
     rotate_left
     ·simp only [Act.put, List.setIfInBounds_toArray, List.set_cons_zero, List.set_cons_succ, i64_w, i32_w]
      rfl
     refine done_ (done_of HT_.out (by kernel_rfl)) ?_
     try go_wp2_with (first | ((with_reducible refine gate_callee (f := 36) rfl ?_); refine goesL_ (some 82) rfl rfl Tryd.func36 (by kernel_rfl) rfl #[.bool (t292 == 0), .int .i64 t292, .int .i64 0] rfl (by (try simp only [List.map_toArray, List.map_cons, List.map_nil]); first | done | rfl | (simp only [List.length_drop, List.length_take]; rfl)) ?_; (with_reducible refine (nodes_must.calls (t292 == 0) t292 0  _ A26.out).mono ?_); rintro e w' ⟨rfl, ⟨nd, rfl⟩⟩; refine ⟨_, rfl, ?_⟩))
     go_ret
     exact ⟨_, by first | rfl | (simp [errW_none, errW_some] <;> rfl) | (simp [*, errW_none, errW_some] <;> rfl), by (with_reducible repeat (first | apply Kd.R_alloc | apply Kd.R_drewN | apply Kd.R_drew)); exact Kd.R_mono HO294.out (fun _ hk => trivial), by repeat (first | (with_reducible first | exact HB.out | apply below_alloc | apply pw_below_drewN | apply below_drew1 | refine below_set ?_ GE269.out) | exact HB.out)⟩
 ·replace c6 := Bool.eq_false_iff.mpr c6
  subst c6
  have H1 : (if (l0_2.length : Int) = 0 then ((nodes_right.f k a0_0 l0_1).bind fun t271 => ((nodes_must.f t271 43 0).bind fun _ => ((tlv_Put.f a0_0 l0_1).bind fun bt272 => ((nodes_must.f (bt272.2 == 0) bt272.2 0).bind fun _ => (some bt272.1))))) else ((nodes_must.f false 43 0).bind fun _ => ((tlv_Put.f a0_0 l0_1).bind fun bt276 => ((nodes_must.f (bt276.2 == 0) bt276.2 0).bind fun _ => (some bt276.1))))) = some r := by rw [if_neg (show ¬ (false = true) by decide)] at H; exact H
  clear H
  have H := H1
  clear H1
  by_cases c33 : (l0_2.length : Int) = 0
  ·rw [if_pos c33] at H
   have c33b0 : ((l0_2.length : Int) == 0) = true := beq_iff_eq.mpr c33
   have c33b1 : ((l0_2.length : Int) != 0) = false := bne_eq_false_iff_eq.mpr c33
   clear c33
   replace H := Option.bind_eq_some_iff.mp H
   obtain ⟨t271, A340, H⟩ := H
   replace H : ((nodes_must.f t271 43 0).bind fun _ => ((tlv_Put.f a0_0 l0_1).bind fun bt272 => ((nodes_must.f (bt272.2 == 0) bt272.2 0).bind fun _ => (some bt272.1)))) = some r := H
   have A34 := Aside0.mk A340
   clear A340
   replace H := Option.bind_eq_some_iff.mp H
   obtain ⟨_, A350, H⟩ := H
   replace H : ((tlv_Put.f a0_0 l0_1).bind fun bt272 => ((nodes_must.f (bt272.2 == 0) bt272.2 0).bind fun _ => (some bt272.1))) = some r := H
   have A35 := Aside0.mk A350
   clear A350
   replace H := Option.bind_eq_some_iff.mp H
   obtain ⟨⟨t272, t273⟩, A360, H⟩ := H
   replace H : ((nodes_must.f (t273 == 0) t273 0).bind fun _ => (some t272)) = some r := H
   have A36 := Aside0.mk A360
   clear A360
   replace H := Option.bind_eq_some_iff.mp H
   obtain ⟨_, A370, H⟩ := H
   replace H : (some t272) = some r := H
   have A37 := Aside0.mk A370
   clear A370
   obtain rfl := Option.some.inj H
   go_enter Tryd.func19, Tryd.ntmps19
   go_wp2_with (first | ((with_reducible refine gate_dst (N := 2) rfl ?_); refine box_event ?hg (N := 2) ?hd (cs := #[.int .u8 a0_0, .slice A0_1 l0_1.length c0_1, .slice A0_2 l0_2.length c0_2]) (t := 45) ?hr ?_; (case hd => rfl); (case hg => rfl); (case hr => first | (go_simp; done) | (go_simp; rfl)); intro gb269 hg w38 hbox hb; have n0_ := Aside0.mk (below_step (by repeat (first | (with_reducible first | exact HB.out | apply below_alloc | apply pw_below_drewN | apply below_drew1) | exact HB.out)) hb); have n1_ := Aside0.mk (hbox); have n2_ := Aside0.mk ((by rw [hg]; exact (below_size (by repeat (first | (with_reducible first | exact HB.out | apply below_alloc | apply pw_below_drewN | apply below_drew1) | exact HB.out))) : w.heap.size ≤ gb269)); have n3_ := Aside0.mk ((by rw [hg]; exact (below_size (by repeat (first | (with_reducible first | exact HB.out | apply below_alloc | apply pw_below_drewN | apply below_drew1) | exact HB.out))) : w.heap.size ≤ gb269)); clear HB; have HB := n0_; have BK269 := n1_; have GW269 := n2_; have GE269 := n3_; clear n0_ n1_ n2_ n3_; clear hb hbox hg) | ((with_reducible refine gate_callee (f := 36) rfl ?_); refine goesL_ (some 14) rfl rfl Tryd.func36 (by kernel_rfl) rfl #[.bool (decide (a1 < 32)), .int .i64 41, .int .i64 0] rfl (by (try simp only [List.map_toArray, List.map_cons, List.map_nil]); first | done | rfl | (simp only [List.length_drop, List.length_take]; rfl)) ?_; (with_reducible refine (nodes_must.calls (decide (a1 < 32)) 41 0  _ A3.out).mono ?_); rintro e w' ⟨rfl, ⟨nd, rfl⟩⟩; refine ⟨_, rfl, ?_⟩; have hcz39_0 : w38.cell? ⟨gb269, 0, none⟩ = some (.int .u8 a0_0) := (blk_cell BK269.out 0).trans rfl; have hcz39_1 : w38.cell? ⟨gb269, 1, none⟩ = some (.slice A0_1 l0_1.length c0_1) := (blk_cell BK269.out 1).trans rfl; have hcz39_2 : w38.cell? ⟨gb269, 2, none⟩ = some (.slice A0_2 l0_2.length c0_2) := (blk_cell BK269.out 2).trans rfl; have hfz39_0 := blk_frozen BK269.out 0; have hfz39_1 := blk_frozen BK269.out 1; have hfz39_2 := blk_frozen BK269.out 2) | ((with_reducible refine gate_callee (f := 37) rfl ?_); refine goesL_ (some 17) rfl rfl Tryd.func37 (by kernel_rfl) rfl #[.int .u8 a0_0, .int .i64 0] rfl (by (try simp only [List.map_toArray, List.map_cons, List.map_nil]); first | done | rfl | (simp only [List.length_drop, List.length_take]; rfl)) ?_; (with_reducible refine (nodes_tagged.calls k a0_0 0  _ A4.out).mono ?_); rintro e w40 ⟨rfl, hb⟩; refine ⟨_, rfl, ?_⟩; have n0_ := Aside0.mk (blk_below (g := gb269) (o := .cells #[.int .u8 a0_0, .slice A0_1 l0_1.length c0_1, .slice A0_2 l0_2.length c0_2] 45 (0, 0)) (by (with_reducible repeat (first | refine blk_drewN ?_ _ | refine blk_drew ?_ | refine blk_alloc ?_ _)); exact BK269.out) hb); have n1_ := Aside0.mk (below_step (by repeat (first | (with_reducible first | exact HB.out | apply below_alloc | apply pw_below_drewN | apply below_drew1 | refine below_set ?_ GE269.out) | exact HB.out)) hb); clear BK269; clear HB; have BK269 := n0_; have HB := n1_; clear n0_ n1_; (try clear hb); (try clear hb2); (try clear hk); (try clear hi); have hcz41_0 : w40.cell? ⟨gb269, 0, none⟩ = some (.int .u8 a0_0) := (blk_cell BK269.out 0).trans rfl; have hcz41_1 : w40.cell? ⟨gb269, 1, none⟩ = some (.slice A0_1 l0_1.length c0_1) := (blk_cell BK269.out 1).trans rfl; have hcz41_2 : w40.cell? ⟨gb269, 2, none⟩ = some (.slice A0_2 l0_2.length c0_2) := (blk_cell BK269.out 2).trans rfl; have hfz41_0 := blk_frozen BK269.out 0; have hfz41_1 := blk_frozen BK269.out 1; have hfz41_2 := blk_frozen BK269.out 2) | ((with_reducible refine gate_callee (f := 38) rfl ?_); refine goesL_ (some 20) rfl rfl Tryd.func38 (by kernel_rfl) rfl #[.int .u8 a0_0] rfl (by (try simp only [List.map_toArray, List.map_cons, List.map_nil]); first | done | rfl | (simp only [List.length_drop, List.length_take]; rfl)) ?_; (with_reducible refine (nodes_compound.calls a0_0 false _ A5.out).mono ?_); rintro e w' ⟨rfl, ⟨nd, rfl⟩⟩; refine ⟨_, rfl, ?_⟩) | (go_at_call 39; (with_reducible refine (nodes_right.calls k a0_0 _ _ l0_1 t271 _ ?side1 ?side2 A34.out).mono ?_); (case side1 => repeat (first | exact (Kd.C_below HR0_1.out (by repeat (first | (with_reducible first | exact HB.out | apply below_alloc | apply pw_below_drewN | apply below_drew1 | refine below_set ?_ GE269.out) | exact HB.out))) | (with_reducible refine Kd.C_alloc ?_ _) | (with_reducible refine Kd.C_drewN ?_ _) | (with_reducible refine Kd.C_drew ?_))); (case side2 => exact HC0_1.out); rintro e w42 ⟨rfl, hb⟩; have n0_ := Aside0.mk (blk_below (g := gb269) (o := .cells #[.int .u8 a0_0, .slice A0_1 l0_1.length c0_1, .slice A0_2 l0_2.length c0_2] 45 (0, 0)) (by (with_reducible repeat (first | refine blk_drewN ?_ _ | refine blk_drew ?_ | refine blk_alloc ?_ _)); exact BK269.out) hb); have n1_ := Aside0.mk (below_step (by repeat (first | (with_reducible first | exact HB.out | apply below_alloc | apply pw_below_drewN | apply below_drew1 | refine below_set ?_ GE269.out) | exact HB.out)) hb); clear BK269; clear HB; have BK269 := n0_; have HB := n1_; clear n0_ n1_; (try clear hb); (try clear hb2); (try clear hk); (try clear hi)) | ((with_reducible refine gate_callee (f := 36) rfl ?_); refine goesL_ (some 33) rfl rfl Tryd.func36 (by kernel_rfl) rfl #[.bool t271, .int .i64 43, .int .i64 0] rfl (by (try simp only [List.map_toArray, List.map_cons, List.map_nil]); first | done | rfl | (simp only [List.length_drop, List.length_take]; rfl)) ?_; (with_reducible refine (nodes_must.calls t271 43 0  _ A35.out).mono ?_); rintro e w' ⟨rfl, ⟨nd, rfl⟩⟩; refine ⟨_, rfl, ?_⟩; have hcz43_0 : w42.cell? ⟨gb269, 0, none⟩ = some (.int .u8 a0_0) := (blk_cell BK269.out 0).trans rfl; have hcz43_1 : w42.cell? ⟨gb269, 1, none⟩ = some (.slice A0_1 l0_1.length c0_1) := (blk_cell BK269.out 1).trans rfl; have hcz43_2 : w42.cell? ⟨gb269, 2, none⟩ = some (.slice A0_2 l0_2.length c0_2) := (blk_cell BK269.out 2).trans rfl; have hfz43_0 := blk_frozen BK269.out 0; have hfz43_1 := blk_frozen BK269.out 1; have hfz43_2 := blk_frozen BK269.out 2) | ((with_reducible refine gate_callee (f := 40) rfl ?_); refine goesL_ (some 39) rfl rfl Tryd.func40 (by kernel_rfl) rfl #[.int .u8 a0_0, .slice A0_1 l0_1.length c0_1] rfl (by (try simp only [List.map_toArray, List.map_cons, List.map_nil]); first | done | rfl | (simp only [List.length_drop, List.length_take]; rfl)) ?_; (with_reducible refine (tlv_Put.calls a0_0 _ _ l0_1 t272 t273 _ ?side1 ?side2 A36.out).mono ?_); (case side1 => repeat (first | exact (Kd.C_below HR0_1.out (by repeat (first | (with_reducible first | exact HB.out | apply below_alloc | apply pw_below_drewN | apply below_drew1 | refine below_set ?_ GE269.out) | exact HB.out))) | (with_reducible refine Kd.C_alloc ?_ _) | (with_reducible refine Kd.C_drewN ?_ _) | (with_reducible refine Kd.C_drew ?_))); (case side2 => exact HC0_1.out); rintro e w44 ⟨v274, rfl, ho0, hb⟩; refine ⟨_, rfl, ?_⟩; have n0_ := Aside0.mk (Kd.R_lower ho0 (below_size (by repeat (first | (with_reducible first | exact HB.out | apply below_alloc | apply pw_below_drewN | apply below_drew1 | refine below_set ?_ GE269.out) | exact HB.out)))); have n1_ := Aside0.mk (blk_below (g := gb269) (o := .cells #[.int .u8 a0_0, .slice A0_1 l0_1.length c0_1, .slice A0_2 l0_2.length c0_2] 45 (0, 0)) (by (with_reducible repeat (first | refine blk_drewN ?_ _ | refine blk_drew ?_ | refine blk_alloc ?_ _)); exact BK269.out) hb); have n2_ := Aside0.mk (below_step (by repeat (first | (with_reducible first | exact HB.out | apply below_alloc | apply pw_below_drewN | apply below_drew1 | refine below_set ?_ GE269.out) | exact HB.out)) hb); clear BK269; clear HB; have HO275 := n0_; have BK269 := n1_; have HB := n2_; clear n0_ n1_ n2_; (try clear hb); (try clear hb2); (try clear hk); (try clear hi); (try clear ho0)) | ((with_reducible refine gate_callee (f := 36) rfl ?_); refine goesL_ (some 45) rfl rfl Tryd.func36 (by kernel_rfl) rfl #[.bool (t273 == 0), .int .i64 t273, .int .i64 0] rfl (by (try simp only [List.map_toArray, List.map_cons, List.map_nil]); first | done | rfl | (simp only [List.length_drop, List.length_take]; rfl)) ?_; (with_reducible refine (nodes_must.calls (t273 == 0) t273 0  _ A37.out).mono ?_); rintro e w' ⟨rfl, ⟨nd, rfl⟩⟩; refine ⟨_, rfl, ?_⟩))
   go_ret
   exact ⟨_, by first | rfl | (simp [errW_none, errW_some] <;> rfl) | (simp [*, errW_none, errW_some] <;> rfl), by (with_reducible repeat (first | apply Kd.R_alloc | apply Kd.R_drewN | apply Kd.R_drew)); exact HO275.out, by repeat (first | (with_reducible first | exact HB.out | apply below_alloc | apply pw_below_drewN | apply below_drew1 | refine below_set ?_ GE269.out) | exact HB.out)⟩
  ·rw [if_neg c33] at H
   have c33b0 : ((l0_2.length : Int) == 0) = false := beq_eq_false_iff_ne.mpr c33
   have c33b1 : ((l0_2.length : Int) != 0) = true := bne_iff_ne.mpr c33
   have c33b2 : ¬ (l0_2 = []) := fun h_ => c33 (by rw [h_]; rfl)
   replace H := Option.bind_eq_some_iff.mp H
   obtain ⟨_, A450, H⟩ := H
   replace H : ((tlv_Put.f a0_0 l0_1).bind fun bt276 => ((nodes_must.f (bt276.2 == 0) bt276.2 0).bind fun _ => (some bt276.1))) = some r := H
   have A45 := Aside0.mk A450
   clear A450
   replace H := Option.bind_eq_some_iff.mp H
   obtain ⟨⟨t276, t277⟩, A460, H⟩ := H
   replace H : ((nodes_must.f (t277 == 0) t277 0).bind fun _ => (some t276)) = some r := H
   have A46 := Aside0.mk A460
   clear A460
   replace H := Option.bind_eq_some_iff.mp H
   obtain ⟨_, A470, H⟩ := H
   replace H : (some t276) = some r := H
   have A47 := Aside0.mk A470
   clear A470
   obtain rfl := Option.some.inj H
   go_enter Tryd.func19, Tryd.ntmps19
   go_wp2_with (first | ((with_reducible refine gate_dst (N := 2) rfl ?_); refine box_event ?hg (N := 2) ?hd (cs := #[.int .u8 a0_0, .slice A0_1 l0_1.length c0_1, .slice A0_2 l0_2.length c0_2]) (t := 45) ?hr ?_; (case hd => rfl); (case hg => rfl); (case hr => first | (go_simp; done) | (go_simp; rfl)); intro gb269 hg w48 hbox hb; have n0_ := Aside0.mk (below_step (by repeat (first | (with_reducible first | exact HB.out | apply below_alloc | apply pw_below_drewN | apply below_drew1) | exact HB.out)) hb); have n1_ := Aside0.mk (hbox); have n2_ := Aside0.mk ((by rw [hg]; exact (below_size (by repeat (first | (with_reducible first | exact HB.out | apply below_alloc | apply pw_below_drewN | apply below_drew1) | exact HB.out))) : w.heap.size ≤ gb269)); have n3_ := Aside0.mk ((by rw [hg]; exact (below_size (by repeat (first | (with_reducible first | exact HB.out | apply below_alloc | apply pw_below_drewN | apply below_drew1) | exact HB.out))) : w.heap.size ≤ gb269)); clear HB; have HB := n0_; have BK269 := n1_; have GW269 := n2_; have GE269 := n3_; clear n0_ n1_ n2_ n3_; clear hb hbox hg) | ((with_reducible refine gate_callee (f := 36) rfl ?_); refine goesL_ (some 14) rfl rfl Tryd.func36 (by kernel_rfl) rfl #[.bool (decide (a1 < 32)), .int .i64 41, .int .i64 0] rfl (by (try simp only [List.map_toArray, List.map_cons, List.map_nil]); first | done | rfl | (simp only [List.length_drop, List.length_take]; rfl)) ?_; (with_reducible refine (nodes_must.calls (decide (a1 < 32)) 41 0  _ A3.out).mono ?_); rintro e w' ⟨rfl, ⟨nd, rfl⟩⟩; refine ⟨_, rfl, ?_⟩; have hcz49_0 : w48.cell? ⟨gb269, 0, none⟩ = some (.int .u8 a0_0) := (blk_cell BK269.out 0).trans rfl; have hcz49_1 : w48.cell? ⟨gb269, 1, none⟩ = some (.slice A0_1 l0_1.length c0_1) := (blk_cell BK269.out 1).trans rfl; have hcz49_2 : w48.cell? ⟨gb269, 2, none⟩ = some (.slice A0_2 l0_2.length c0_2) := (blk_cell BK269.out 2).trans rfl; have hfz49_0 := blk_frozen BK269.out 0; have hfz49_1 := blk_frozen BK269.out 1; have hfz49_2 := blk_frozen BK269.out 2) | ((with_reducible refine gate_callee (f := 37) rfl ?_); refine goesL_ (some 17) rfl rfl Tryd.func37 (by kernel_rfl) rfl #[.int .u8 a0_0, .int .i64 0] rfl (by (try simp only [List.map_toArray, List.map_cons, List.map_nil]); first | done | rfl | (simp only [List.length_drop, List.length_take]; rfl)) ?_; (with_reducible refine (nodes_tagged.calls k a0_0 0  _ A4.out).mono ?_); rintro e w50 ⟨rfl, hb⟩; refine ⟨_, rfl, ?_⟩; have n0_ := Aside0.mk (blk_below (g := gb269) (o := .cells #[.int .u8 a0_0, .slice A0_1 l0_1.length c0_1, .slice A0_2 l0_2.length c0_2] 45 (0, 0)) (by (with_reducible repeat (first | refine blk_drewN ?_ _ | refine blk_drew ?_ | refine blk_alloc ?_ _)); exact BK269.out) hb); have n1_ := Aside0.mk (below_step (by repeat (first | (with_reducible first | exact HB.out | apply below_alloc | apply pw_below_drewN | apply below_drew1 | refine below_set ?_ GE269.out) | exact HB.out)) hb); clear BK269; clear HB; have BK269 := n0_; have HB := n1_; clear n0_ n1_; (try clear hb); (try clear hb2); (try clear hk); (try clear hi); have hcz51_0 : w50.cell? ⟨gb269, 0, none⟩ = some (.int .u8 a0_0) := (blk_cell BK269.out 0).trans rfl; have hcz51_1 : w50.cell? ⟨gb269, 1, none⟩ = some (.slice A0_1 l0_1.length c0_1) := (blk_cell BK269.out 1).trans rfl; have hcz51_2 : w50.cell? ⟨gb269, 2, none⟩ = some (.slice A0_2 l0_2.length c0_2) := (blk_cell BK269.out 2).trans rfl; have hfz51_0 := blk_frozen BK269.out 0; have hfz51_1 := blk_frozen BK269.out 1; have hfz51_2 := blk_frozen BK269.out 2) | ((with_reducible refine gate_callee (f := 38) rfl ?_); refine goesL_ (some 20) rfl rfl Tryd.func38 (by kernel_rfl) rfl #[.int .u8 a0_0] rfl (by (try simp only [List.map_toArray, List.map_cons, List.map_nil]); first | done | rfl | (simp only [List.length_drop, List.length_take]; rfl)) ?_; (with_reducible refine (nodes_compound.calls a0_0 false _ A5.out).mono ?_); rintro e w' ⟨rfl, ⟨nd, rfl⟩⟩; refine ⟨_, rfl, ?_⟩) | ((with_reducible refine gate_callee (f := 36) rfl ?_); refine goesL_ (some 33) rfl rfl Tryd.func36 (by kernel_rfl) rfl #[.bool false, .int .i64 43, .int .i64 0] rfl (by (try simp only [List.map_toArray, List.map_cons, List.map_nil]); first | done | rfl | (simp only [List.length_drop, List.length_take]; rfl)) ?_; (with_reducible refine (nodes_must.calls false 43 0  _ A45.out).mono ?_); rintro e w' ⟨rfl, ⟨nd, rfl⟩⟩; refine ⟨_, rfl, ?_⟩) | ((with_reducible refine gate_callee (f := 40) rfl ?_); refine goesL_ (some 39) rfl rfl Tryd.func40 (by kernel_rfl) rfl #[.int .u8 a0_0, .slice A0_1 l0_1.length c0_1] rfl (by (try simp only [List.map_toArray, List.map_cons, List.map_nil]); first | done | rfl | (simp only [List.length_drop, List.length_take]; rfl)) ?_; (with_reducible refine (tlv_Put.calls a0_0 _ _ l0_1 t276 t277 _ ?side1 ?side2 A46.out).mono ?_); (case side1 => repeat (first | exact (Kd.C_below HR0_1.out (by repeat (first | (with_reducible first | exact HB.out | apply below_alloc | apply pw_below_drewN | apply below_drew1 | refine below_set ?_ GE269.out) | exact HB.out))) | (with_reducible refine Kd.C_alloc ?_ _) | (with_reducible refine Kd.C_drewN ?_ _) | (with_reducible refine Kd.C_drew ?_))); (case side2 => exact HC0_1.out); rintro e w52 ⟨v278, rfl, ho0, hb⟩; refine ⟨_, rfl, ?_⟩; have n0_ := Aside0.mk (Kd.R_lower ho0 (below_size (by repeat (first | (with_reducible first | exact HB.out | apply below_alloc | apply pw_below_drewN | apply below_drew1 | refine below_set ?_ GE269.out) | exact HB.out)))); have n1_ := Aside0.mk (blk_below (g := gb269) (o := .cells #[.int .u8 a0_0, .slice A0_1 l0_1.length c0_1, .slice A0_2 l0_2.length c0_2] 45 (0, 0)) (by (with_reducible repeat (first | refine blk_drewN ?_ _ | refine blk_drew ?_ | refine blk_alloc ?_ _)); exact BK269.out) hb); have n2_ := Aside0.mk (below_step (by repeat (first | (with_reducible first | exact HB.out | apply below_alloc | apply pw_below_drewN | apply below_drew1 | refine below_set ?_ GE269.out) | exact HB.out)) hb); clear BK269; clear HB; have HO279 := n0_; have BK269 := n1_; have HB := n2_; clear n0_ n1_ n2_; (try clear hb); (try clear hb2); (try clear hk); (try clear hi); (try clear ho0)) | ((with_reducible refine gate_callee (f := 36) rfl ?_); refine goesL_ (some 45) rfl rfl Tryd.func36 (by kernel_rfl) rfl #[.bool (t277 == 0), .int .i64 t277, .int .i64 0] rfl (by (try simp only [List.map_toArray, List.map_cons, List.map_nil]); first | done | rfl | (simp only [List.length_drop, List.length_take]; rfl)) ?_; (with_reducible refine (nodes_must.calls (t277 == 0) t277 0  _ A47.out).mono ?_); rintro e w' ⟨rfl, ⟨nd, rfl⟩⟩; refine ⟨_, rfl, ?_⟩))
   go_ret
   exact ⟨_, by first | rfl | (simp [errW_none, errW_some] <;> rfl) | (simp [*, errW_none, errW_some] <;> rfl), by (with_reducible repeat (first | apply Kd.R_alloc | apply Kd.R_drewN | apply Kd.R_drew)); exact HO279.out, by repeat (first | (with_reducible first | exact HB.out | apply below_alloc | apply pw_below_drewN | apply below_drew1 | refine below_set ?_ GE269.out) | exact HB.out)⟩
end Go.Proofs.YtncanijjnhkgbaaDoor.PMsgsUnlike
namespace Go.Proofs.YtncanijjnhkgbaaDoor.PMsgsUnlike
open Go.RowKit Go.Proofs.YtncanijjnhkgbaaDoorW.PrintWords Go.Proofs.YtncanijjnhkgbaaDoorW.PrintLast Go.Proofs.YtncanijjnhkgbaaDoorW.PrintMore
def Ev {α : Type} (g : Nat → Option α) (r : α) : Prop := ∃ k0, ∀ k, k0 ≤ k → g k = some r
theorem Ev.pure {α : Type} {a : Option α} {r : α} (h : a = some r) : Ev (fun _ => a) r := ⟨0, fun _ _ => h⟩
theorem Ev.bind {α β : Type} {g : Nat → Option α} {x : α} {h : α → Nat → Option β} {r : β} (hg : Ev g x) (hh : Ev (h x) r) : Ev (fun k => (g k).bind fun y => h y k) r := by
 obtain ⟨k1, h1⟩ := hg
 obtain ⟨k2, h2⟩ := hh
 refine ⟨max k1 k2, fun k hk => ?_⟩
 show (g k).bind _ = _
 rw [h1 k (by omega)]
 exact h2 k (by omega)
theorem Ev.bindP {α β : Type} {a : Option α} {x : α} {h : α → Nat → Option β} {r : β} (hg : a = some x) (hh : Ev (h x) r) : Ev (fun k => a.bind fun y => h y k) r := Ev.bind (Ev.pure hg) hh
theorem Ev.step {α : Type} {g : Nat → Option α} {r : α} (h : Ev (fun k => g (k + 1)) r) : Ev g r := by
 obtain ⟨k1, h1⟩ := h
 refine ⟨k1 + 1, fun k hk => ?_⟩
 obtain ⟨k, rfl⟩ : ∃ q, k = q + 1 := ⟨k - 1, by omega⟩
 exact h1 k (by omega)
theorem Ev.pos {α : Type} {c : Prop} [Decidable c] {g h : Nat → Option α} {r : α} (hc : c) (hg : Ev g r) : Ev (fun k => if c then g k else h k) r := by simp only [if_pos hc]; exact hg
theorem Ev.neg {α : Type} {c : Prop} [Decidable c] {g h : Nat → Option α} {r : α} (hc : ¬ c) (hg : Ev h r) : Ev (fun k => if c then g k else h k) r := by simp only [if_neg hc]; exact hg
theorem Ev.of {α : Type} {g : Nat → Option α} {r : α} (h : Ev g r) : ∃ k, g k = some r := ⟨h.choose, h.choose_spec _ (Nat.le_refl _)⟩
theorem Ev.one {α : Type} {g : Nat → Option α} {r s : α} (h : Ev g r) (hm : ∀ k, LeO (g k) (g (k + 1))) {k : Nat} (hs : g k = some s) : s = r := by
 obtain ⟨k0, h0⟩ := h
 have h1 := more_rounds hm k k0 s hs
 rw [h0 (k + k0) (by omega)] at h1
 exact (Option.some.inj h1).symm
theorem w64 {x : Int} (h1 : -9223372036854775808 ≤ x) (h2 : x ≤ 9223372036854775807) : wrap64 x = x := by unfold wrap64; omega
def tlvB (t : Int) (b : List Int) : List Int :=
 (if b.length > 255 then [t, 130, (b.length : Int) / 256 % 256, (b.length : Int) % 256] else if b.length > 127 then [t, 129, (b.length : Int) % 256] else [t, (b.length : Int) % 256]) ++ b
mutual
def enc : S45 → List Int
 | ⟨t, b, ks⟩ => tlvB t (b ++ encL ks)
def encL : List (S45) → List Int
 | [] => []
 | n :: r => enc n ++ encL r
end
def IsB (l : List Int) : Prop := ∀ x ∈ l, 0 ≤ x ∧ x < 256
theorem tlv_some (t : Int) (b : List Int) (ht : (Go.bits .and .u8 t 31) ≠ 31) (hb : b.length ≤ 65535) : tlv_Put.f t b = some (tlvB t b, 0) := by
 unfold tlv_Put.f tlvB
 simp only [Option.bind_some]
 rw [if_neg ht, if_neg (by omega)]
 by_cases h1 : b.length > 255
 ·rw [if_pos (by omega), if_pos (by simp; omega), if_pos h1]
 ·rw [if_neg (by omega), if_neg h1]
  by_cases h2 : b.length > 127
  ·rw [if_pos (by omega), if_pos (by simp; omega), if_pos h2]
  ·rw [if_neg (by omega), if_pos (by simp; omega), if_neg h2]
def compTag (t : Int) : Prop := t ∈ [48, 97, 98, 99, 106, 107, 108, 109, 110, 111, 113, 114, 121, 123, 126]
def leafOk (t : Int) (b : List Int) : Prop :=
 (t = 1 ∧ ∃ x : Bool, b = [if x = true then 255 else 0]) ∨ (t = 2 ∧ ∃ n, -9223372036854775808 ≤ n ∧ n ≤ 9223372036854775807 ∧ intE n = b) ∨ (t = 4 ∧ IsB b) ∨
 ((t = 23 ∨ t = 24) ∧ ∃ s, -631152000 ≤ s ∧ s ≤ 253402300799 ∧ timeT s = t ∧ timeE s = b) ∨ (t = 27 ∧ genB b = true ∧ IsB b)
inductive Fine : Nat → S45 → Prop
 | leaf (h : Nat) (t : Int) (b : List Int) (hb : b.length ≤ 65535) (ho : leafOk t b) : Fine h ⟨t, b, []⟩
 | comp (h : Nat) (t : Int) (ks : List (S45)) (ht : compTag t) (hl : (encL ks).length ≤ 65535) (hn : ks.length ≤ 100) (hk : ∀ n ∈ ks, Fine h n) : Fine (h + 1) ⟨t, [], ks⟩
theorem comp_tag {t : Int} (h : compTag t) : (Go.bits .and .u8 t 31) ≠ 31 ∧ (Go.bits .and .u8 t 32) ≠ 0 ∧ (t = 48 ∨ 64 ≤ t) ∧ t ≠ 49 ∧ 0 ≤ t ∧ t < 256 := by
 unfold compTag at h
 simp only [List.mem_cons, List.not_mem_nil, or_false] at h
 rcases h with rfl | rfl | rfl | rfl | rfl | rfl | rfl | rfl | rfl | rfl | rfl | rfl | rfl | rfl | rfl <;> exact ⟨by decide, by decide, by decide, by decide, by decide, by decide⟩
theorem leaf_tag {t : Int} {b : List Int} (h : leafOk t b) : t = 1 ∨ t = 2 ∨ t = 4 ∨ t = 23 ∨ t = 24 ∨ t = 27 := by
 rcases h with ⟨h, _⟩ | ⟨h, _⟩ | ⟨h, _⟩ | ⟨h | h, _⟩ | ⟨h, _⟩ <;> simp [h]
theorem index_some (l : List Int) (x : Int) (hl : l.length ≤ 1000) : ∀ (d i : Nat), i + d = l.length → ∀ j : Nat, i ≤ j → j < l.length → (∀ q : Nat, i ≤ q → q < j → x ≠ rd l (q : Int)) → x = rd l (j : Int) → Ev (fun k => slices_Index_byte_byte.l0 k l x (l.length : Int) (i : Int)) (j : Int)
 | 0, i, hd, j, h1, h2, _, _ => by omega
 | d + 1, i, hd, j, h1, h2, h3, h4 => by
  refine Ev.step ?_
  simp only [slices_Index_byte_byte.l0]
  refine Ev.pos (by omega) (Ev.pos (by omega) (Ev.pos (by omega) ?_))
  by_cases hij : i = j
  ·subst hij
   exact Ev.pos h4 (Ev.pure rfl)
  ·refine Ev.neg (h3 i (Nat.le_refl _) (by omega)) ?_
   have ih := index_some l x hl d (i + 1) (by omega) j (by omega) h2 (fun q a b => h3 q (by omega) b) h4
   have e : wrap64 ((i : Int) + 1) = ((i + 1 : Nat) : Int) := by rw [w64 (by omega) (by omega)]; omega
   rw [e]
   exact ih
theorem contains_some (t : Int) (j : Nat) (hj : j < 14) (h : t = rd [1, 2, 3, 4, 5, 6, 12, 19, 22, 23, 24, 27, 48, 49] (j : Int)) (h2 : ∀ q : Nat, q < j → t ≠ rd [1, 2, 3, 4, 5, 6, 12, 19, 22, 23, 24, 27, 48, 49] (q : Int)) :
  Ev (fun k => slices_Contains_byte_byte.f k [1, 2, 3, 4, 5, 6, 12, 19, 22, 23, 24, 27, 48, 49] t) true := by
 unfold slices_Contains_byte_byte.f slices_Index_byte_byte.f
 have h0 := index_some [1, 2, 3, 4, 5, 6, 12, 19, 22, 23, 24, 27, 48, 49] t (by decide) 14 0 rfl j (by omega) hj (fun q _ hq => h2 q hq) h
 refine Ev.bind h0 (Ev.pure ?_)
 rw [decide_eq_true (by omega)]
theorem tagged_some (t : Int) (h1 : (Go.bits .and .u8 t 31) ≠ 31) (h2 : 64 ≤ t ∨ t = 48 ∨ t = 1 ∨ t = 2 ∨ t = 4 ∨ t = 23 ∨ t = 24 ∨ t = 27) : Ev (fun k => nodes_tagged.f k t 0) () := by
 unfold nodes_tagged.f
 refine Ev.bindP (by unfold nodes_must.f; rw [if_pos (bne_iff_ne.2 h1)]) ?_
 by_cases h : t ≥ 64
 ·exact Ev.pos h (Ev.bindP (x := ()) rfl (Ev.pure rfl))
 ·refine Ev.neg h ?_
  have hc : Ev (fun k => slices_Contains_byte_byte.f k [1, 2, 3, 4, 5, 6, 12, 19, 22, 23, 24, 27, 48, 49] t) true := by
   rcases h2 with h2 | rfl | rfl | rfl | rfl | rfl | rfl | rfl
   ·exact absurd h2 h
   ·exact contains_some 48 12 (by decide) rfl (by decide)
   ·exact contains_some 1 0 (by decide) rfl (by decide)
   ·exact contains_some 2 1 (by decide) rfl (by decide)
   ·exact contains_some 4 3 (by decide) rfl (by decide)
   ·exact contains_some 23 9 (by decide) rfl (by decide)
   ·exact contains_some 24 10 (by decide) rfl (by decide)
   ·exact contains_some 27 11 (by decide) rfl (by decide)
  exact Ev.bind hc (Ev.bindP (x := ()) rfl (Ev.pure rfl))
theorem right_some (t : Int) (b : List Int) (h : leafOk t b) : Ev (fun k => nodes_right.f k t b) true := by
 unfold nodes_right.f
 rcases h with ⟨rfl, x, rfl⟩ | ⟨rfl, n, h1, h2, h3⟩ | ⟨rfl, _⟩ | ⟨ht, s, h1, h2, h3, h4⟩ | ⟨rfl, hg, _⟩
 ·refine Ev.pos rfl (Ev.bindP (x := (x, 0)) ?_ (Ev.pure rfl))
  cases x <;> rfl
 ·refine Ev.neg (by decide) (Ev.pos rfl (Ev.bindP (x := ((⟨n, h1, h2, h3⟩ : ∃ n, -9223372036854775808 ≤ n ∧ n ≤ 9223372036854775807 ∧ intE n = b).choose, 0)) ?_ (Ev.pure rfl)))
  unfold ints_Int.f intO
  rw [dif_pos]
 ·refine Ev.neg (by decide) (Ev.neg (by decide) (Ev.neg (by decide) (Ev.neg (by decide) ?_)))
  refine Ev.step ?_
  simp only [nodes_right.j0]
  refine Ev.neg (by decide) (Ev.neg (by decide) (Ev.neg (by decide) (Ev.neg (by decide) (Ev.neg (by decide) ?_))))
  refine Ev.step ?_
  simp only [nodes_right.j1]
  exact Ev.neg (by decide) (Ev.neg (by decide) (Ev.pure rfl))
 ·have hT : Ev (fun k => nodes_right.j0 k t b 0 t true) true := by
   refine Ev.step ?_
   simp only [nodes_right.j0]
   refine Ev.pos trivial (Ev.bindP (x := ((⟨s, h1, h2, h3, h4⟩ : ∃ s, -631152000 ≤ s ∧ s ≤ 253402300799 ∧ timeT s = t ∧ timeE s = b).choose, 0)) ?_ (Ev.pure rfl))
   unfold texts_Time.f timeO
   rw [dif_pos]
  rcases ht with rfl | rfl
  ·exact Ev.neg (by decide) (Ev.neg (by decide) (Ev.neg (by decide) (Ev.pos rfl hT)))
  ·exact Ev.neg (by decide) (Ev.neg (by decide) (Ev.neg (by decide) (Ev.neg (by decide) hT)))
 ·refine Ev.neg (by decide) (Ev.neg (by decide) (Ev.neg (by decide) (Ev.neg (by decide) ?_)))
  refine Ev.step ?_
  simp only [nodes_right.j0]
  refine Ev.neg (by decide) (Ev.neg (by decide) (Ev.neg (by decide) (Ev.neg (by decide) (Ev.neg (by decide) ?_))))
  refine Ev.step ?_
  simp only [nodes_right.j1]
  refine Ev.pos (by decide) (Ev.bindP (x := true) ?_ (Ev.pure rfl))
  unfold texts_Right.f
  rw [if_pos rfl, hg]
theorem encL_flat (ks : List (S45)) : encL ks = (ks.map enc).flatten := by
 induction ks with
 | nil => rfl
 | cons n r ih => rw [encL, ih]; rfl
theorem rd_node (l : List (S45)) (i : Nat) (h : i < l.length) : rd_T45 l (i : Int) = l[i] := by
 unfold rd_T45
 rw [Int.toNat_natCast, List.getD_eq_getElem?_getD, List.getElem?_eq_getElem h]
 rfl
theorem printed_some {h : Nat} {n : S45} (hf : Fine h n) : ∀ d : Nat, d + h < 32 → Ev (fun k => nodes_printed.f k n.f0 n.f1 n.f2 (d : Int)) (enc n) := by
 induction hf with
 | leaf h t b hb ho =>
  intro d hd
  have h31 : (Go.bits .and .u8 t 31) ≠ 31 ∧ (Go.bits .and .u8 t 32) = 0 := by rcases leaf_tag ho with rfl | rfl | rfl | rfl | rfl | rfl <;> exact ⟨by decide, by decide⟩
  refine Ev.step ?_
  simp only [nodes_printed.f]
  refine Ev.bindP (x := ()) (by unfold nodes_must.f; rw [decide_eq_true (by omega)]; rfl) ?_
  refine Ev.bind (tagged_some t h31.1 (.inr (.inr (leaf_tag ho)))) ?_
  refine Ev.bindP (x := false) (by unfold nodes_compound.f; rw [h31.2]; rfl) ?_
  refine Ev.neg (by decide) (Ev.pos rfl ?_)
  refine Ev.bind (right_some t b ho) (Ev.bindP (x := ()) rfl (Ev.bindP (tlv_some t b h31.1 hb) (Ev.bindP (x := ()) rfl (Ev.pure ?_))))
  simp [enc, encL]
 | comp h t ks ht hl hn hk ih =>
  intro d hd
  obtain ⟨t1, t2, t3, t4, _, _⟩ := comp_tag ht
  have hloop : ∀ (e i : Nat), i + e = ks.length → Ev (fun k => nodes_printed.l0 k (d : Int) ((ks.take i).map enc) ks (ks.length : Int) (i : Int) t [] ks) (enc ⟨t, [], ks⟩) := by
   intro e
   induction e with
   | zero =>
    intro i hi
    refine Ev.step ?_
    simp only [nodes_printed.l0]
    refine Ev.neg (by omega) ?_
    rw [List.take_of_length_le (by omega)]
    refine Ev.bindP (x := ()) (by unfold nodes_rise.f; rw [if_neg t4]) ?_
    refine Ev.bindP (x := encL ks) (by unfold slices_Concat_byte_byte.f; rw [← encL_flat, if_pos (by omega)]) ?_
    refine Ev.bindP (tlv_some t _ t1 hl) (Ev.bindP (x := ()) rfl (Ev.pure ?_))
    simp [enc]
   | succ e ihe =>
    intro i hi
    refine Ev.step ?_
    simp only [nodes_printed.l0]
    refine Ev.pos (by omega) (Ev.pos (by omega) (Ev.pos (by omega) ?_))
    have e1 : wrap64 ((d : Int) + 1) = ((d + 1 : Nat) : Int) := by rw [w64 (by omega) (by omega)]; omega
    have e2 : wrap64 ((i : Int) + 1) = ((i + 1 : Nat) : Int) := by rw [w64 (by omega) (by omega)]; omega
    rw [rd_node ks i (by omega), e1, e2]
    refine Ev.bind (ih _ (List.getElem_mem (by omega : i < ks.length)) (d + 1) (by omega)) ?_
    refine Ev.pos (by simp; omega) ?_
    have := ihe (i + 1) (by omega)
    rw [List.take_succ_eq_append_getElem (by omega), List.map_append] at this
    exact this
  refine Ev.step ?_
  simp only [nodes_printed.f]
  refine Ev.bindP (x := ()) (by unfold nodes_must.f; rw [decide_eq_true (by omega)]; rfl) ?_
  refine Ev.bind (tagged_some t t1 (t3.elim (fun h => .inr (.inl h)) .inl)) ?_
  refine Ev.bindP (x := true) (by unfold nodes_compound.f; rw [bne_iff_ne.2 t2]) ?_
  refine Ev.pos rfl (Ev.bindP (x := ()) rfl ?_)
  exact hloop ks.length 0 (by omega)
end Go.Proofs.YtncanijjnhkgbaaDoor.PMsgsUnlike
namespace Go.Proofs.YtncanijjnhkgbaaDoor.PMsgsUnlike
open Go.RowKit Go.Proofs.YtncanijjnhkgbaaDoorW.PrintWords Go.Proofs.YtncanijjnhkgbaaDoorW.PrintLast Go.Proofs.YtncanijjnhkgbaaDoorW.PrintMore
def msgs_shapeOf.f (a0 : Int) : Option (Int × List Int) := some (shapeO a0)
theorem shapeR (W : World) (base : Nat) (xs : List Int) (cells : Array Value) (g n : Nat) (hc : cells = (encs anyV xs).toArray) (hg : W.heap.size = g) (hn : xs.length = n) (hb : base ≤ g) (hm : n ≤ 9223372036854775807) :
  Kd.R Kd.anyK 20 (W.alloc (.cells cells 20)) base (fun _ => True) (.slice (some ⟨g, 0, none⟩) n n) xs := by
 subst hc hg hn
 exact Kd.R_of_own (own_lit_of W base 20 xs hb hm) (fun _ _ => trivial)
theorem shape1 (w : World) :
  Calls Tryd.prog 8 #[.int .i64 1] w fun e w' => ∃ v1_ : Value, e = .returned (.agg #[.int .u8 106, v1_]) ∧ Kd.R Kd.anyK 20 w' w.heap.size (fun _ => True) v1_ [0, 5, 5, 2, 3] ∧ Below w.heap.size w w' := by
 go_enter Tryd.func8, Tryd.ntmps8
 go_wp2
 refine bodyPost_ret (results_cell_row rfl _ _ w.heap.size 41 #[.int .u8 106, .slice (some ⟨w.heap.size + 1 + 1 + 1, 0, none⟩) 5 5] (0, 0) _ rfl (by repeat (first | exact blk_new _ _ | refine blk_alloc ?_ _)) Tryd.underlying41 rfl (by kernel_rfl)) rfl ?_
 refine ⟨_, rfl, ?_, by repeat (first | exact Below.refl _ _ | apply below_alloc)⟩
 exact shapeR _ w.heap.size [0, 5, 5, 2, 3] _ _ _ (by kernel_rfl) (by simp only [World.alloc, Array.size_push]) rfl (by omega) (by decide)
theorem shape2 (w : World) :
  Calls Tryd.prog 8 #[.int .i64 2] w fun e w' => ∃ v1_ : Value, e = .returned (.agg #[.int .u8 107, v1_]) ∧ Kd.R Kd.anyK 20 w' w.heap.size (fun _ => True) v1_ [5, 6, 3, 4] ∧ Below w.heap.size w w' := by
 go_enter Tryd.func8, Tryd.ntmps8
 go_wp2
 refine bodyPost_ret (results_cell_row rfl _ _ w.heap.size 41 #[.int .u8 107, .slice (some ⟨w.heap.size + 1 + 1 + 1, 0, none⟩) 4 4] (0, 0) _ rfl (by repeat (first | exact blk_new _ _ | refine blk_alloc ?_ _)) Tryd.underlying41 rfl (by kernel_rfl)) rfl ?_
 refine ⟨_, rfl, ?_, by repeat (first | exact Below.refl _ _ | apply below_alloc)⟩
 exact shapeR _ w.heap.size [5, 6, 3, 4] _ _ _ (by kernel_rfl) (by simp only [World.alloc, Array.size_push]) rfl (by omega) (by decide)
theorem shape3 (w : World) :
  Calls Tryd.prog 8 #[.int .i64 3] w fun e w' => ∃ v1_ : Value, e = .returned (.agg #[.int .u8 108, v1_]) ∧ Kd.R Kd.anyK 20 w' w.heap.size (fun _ => True) v1_ [0, 5, 2, 6, 4] ∧ Below w.heap.size w w' := by
 go_enter Tryd.func8, Tryd.ntmps8
 go_wp2
 refine bodyPost_ret (results_cell_row rfl _ _ w.heap.size 41 #[.int .u8 108, .slice (some ⟨w.heap.size + 1 + 1 + 1, 0, none⟩) 5 5] (0, 0) _ rfl (by repeat (first | exact blk_new _ _ | refine blk_alloc ?_ _)) Tryd.underlying41 rfl (by kernel_rfl)) rfl ?_
 refine ⟨_, rfl, ?_, by repeat (first | exact Below.refl _ _ | apply below_alloc)⟩
 exact shapeR _ w.heap.size [0, 5, 2, 6, 4] _ _ _ (by kernel_rfl) (by simp only [World.alloc, Array.size_push]) rfl (by omega) (by decide)
theorem shape4 (w : World) :
  Calls Tryd.prog 8 #[.int .i64 4] w fun e w' => ∃ v1_ : Value, e = .returned (.agg #[.int .u8 109, v1_]) ∧ Kd.R Kd.anyK 20 w' w.heap.size (fun _ => True) v1_ [5, 6, 4] ∧ Below w.heap.size w w' := by
 go_enter Tryd.func8, Tryd.ntmps8
 go_wp2
 refine bodyPost_ret (results_cell_row rfl _ _ w.heap.size 41 #[.int .u8 109, .slice (some ⟨w.heap.size + 1 + 1 + 1, 0, none⟩) 3 3] (0, 0) _ rfl (by repeat (first | exact blk_new _ _ | refine blk_alloc ?_ _)) Tryd.underlying41 rfl (by kernel_rfl)) rfl ?_
 refine ⟨_, rfl, ?_, by repeat (first | exact Below.refl _ _ | apply below_alloc)⟩
 exact shapeR _ w.heap.size [5, 6, 4] _ _ _ (by kernel_rfl) (by simp only [World.alloc, Array.size_push]) rfl (by omega) (by decide)
theorem shape5 (w : World) :
  Calls Tryd.prog 8 #[.int .i64 5] w fun e w' => ∃ v1_ : Value, e = .returned (.agg #[.int .u8 110, v1_]) ∧ Kd.R Kd.anyK 20 w' w.heap.size (fun _ => True) v1_ [1, 6, 4] ∧ Below w.heap.size w w' := by
 go_enter Tryd.func8, Tryd.ntmps8
 go_wp2
 refine bodyPost_ret (results_cell_row rfl _ _ w.heap.size 41 #[.int .u8 110, .slice (some ⟨w.heap.size + 1 + 1 + 1, 0, none⟩) 3 3] (0, 0) _ rfl (by repeat (first | exact blk_new _ _ | refine blk_alloc ?_ _)) Tryd.underlying41 rfl (by kernel_rfl)) rfl ?_
 refine ⟨_, rfl, ?_, by repeat (first | exact Below.refl _ _ | apply below_alloc)⟩
 exact shapeR _ w.heap.size [1, 6, 4] _ _ _ (by kernel_rfl) (by simp only [World.alloc, Array.size_push]) rfl (by omega) (by decide)
theorem shape6 (w : World) :
  Calls Tryd.prog 8 #[.int .i64 6] w fun e w' => ∃ v1_ : Value, e = .returned (.agg #[.int .u8 111, v1_]) ∧ Kd.R Kd.anyK 20 w' w.heap.size (fun _ => True) v1_ [4] ∧ Below w.heap.size w w' := by
 go_enter Tryd.func8, Tryd.ntmps8
 go_wp2
 refine bodyPost_ret (results_cell_row rfl _ _ w.heap.size 41 #[.int .u8 111, .slice (some ⟨w.heap.size + 1 + 1 + 1, 0, none⟩) 1 1] (0, 0) _ rfl (by repeat (first | exact blk_new _ _ | refine blk_alloc ?_ _)) Tryd.underlying41 rfl (by kernel_rfl)) rfl ?_
 refine ⟨_, rfl, ?_, by repeat (first | exact Below.refl _ _ | apply below_alloc)⟩
 exact shapeR _ w.heap.size [4] _ _ _ (by kernel_rfl) (by simp only [World.alloc, Array.size_push]) rfl (by omega) (by decide)
theorem shape7 (w : World) :
  Calls Tryd.prog 8 #[.int .i64 7] w fun e w' => ∃ v1_ : Value, e = .returned (.agg #[.int .u8 126, v1_]) ∧ Kd.R Kd.anyK 20 w' w.heap.size (fun _ => True) v1_ [0, 2] ∧ Below w.heap.size w w' := by
 go_enter Tryd.func8, Tryd.ntmps8
 go_wp2
 refine bodyPost_ret (results_cell_row rfl _ _ w.heap.size 41 #[.int .u8 126, .slice (some ⟨w.heap.size + 1 + 1 + 1, 0, none⟩) 2 2] (0, 0) _ rfl (by repeat (first | exact blk_new _ _ | refine blk_alloc ?_ _)) Tryd.underlying41 rfl (by kernel_rfl)) rfl ?_
 refine ⟨_, rfl, ?_, by repeat (first | exact Below.refl _ _ | apply below_alloc)⟩
 exact shapeR _ w.heap.size [0, 2] _ _ _ (by kernel_rfl) (by simp only [World.alloc, Array.size_push]) rfl (by omega) (by decide)
theorem shape8 (w : World) :
  Calls Tryd.prog 8 #[.int .i64 8] w fun e w' => ∃ v1_ : Value, e = .returned (.agg #[.int .u8 99, v1_]) ∧ Kd.R Kd.anyK 20 w' w.heap.size (fun _ => True) v1_ [4, 5, 2, 2, 2] ∧ Below w.heap.size w w' := by
 go_enter Tryd.func8, Tryd.ntmps8
 go_wp2
 refine bodyPost_ret (results_cell_row rfl _ _ w.heap.size 41 #[.int .u8 99, .slice (some ⟨w.heap.size + 1 + 1 + 1, 0, none⟩) 5 5] (0, 0) _ rfl (by repeat (first | exact blk_new _ _ | refine blk_alloc ?_ _)) Tryd.underlying41 rfl (by kernel_rfl)) rfl ?_
 refine ⟨_, rfl, ?_, by repeat (first | exact Below.refl _ _ | apply below_alloc)⟩
 exact shapeR _ w.heap.size [4, 5, 2, 2, 2] _ _ _ (by kernel_rfl) (by simp only [World.alloc, Array.size_push]) rfl (by omega) (by decide)
theorem shape9 (w : World) :
  Calls Tryd.prog 8 #[.int .i64 9] w fun e w' => ∃ v1_ : Value, e = .returned (.agg #[.int .u8 98, v1_]) ∧ Kd.R Kd.anyK 20 w' w.heap.size (fun _ => True) v1_ [5, 2, 0] ∧ Below w.heap.size w w' := by
 go_enter Tryd.func8, Tryd.ntmps8
 go_wp2
 refine bodyPost_ret (results_cell_row rfl _ _ w.heap.size 41 #[.int .u8 98, .slice (some ⟨w.heap.size + 1 + 1 + 1, 0, none⟩) 3 3] (0, 0) _ rfl (by repeat (first | exact blk_new _ _ | refine blk_alloc ?_ _)) Tryd.underlying41 rfl (by kernel_rfl)) rfl ?_
 refine ⟨_, rfl, ?_, by repeat (first | exact Below.refl _ _ | apply below_alloc)⟩
 exact shapeR _ w.heap.size [5, 2, 0] _ _ _ (by kernel_rfl) (by simp only [World.alloc, Array.size_push]) rfl (by omega) (by decide)
theorem shape10 (w : World) :
  Calls Tryd.prog 8 #[.int .i64 10] w fun e w' => ∃ v1_ : Value, e = .returned (.agg #[.int .u8 121, v1_]) ∧ Kd.R Kd.anyK 20 w' w.heap.size (fun _ => True) v1_ [4, 0, 5, 2, 2, 2] ∧ Below w.heap.size w w' := by
 go_enter Tryd.func8, Tryd.ntmps8
 go_wp2
 refine bodyPost_ret (results_cell_row rfl _ _ w.heap.size 41 #[.int .u8 121, .slice (some ⟨w.heap.size + 1 + 1 + 1, 0, none⟩) 6 6] (0, 0) _ rfl (by repeat (first | exact blk_new _ _ | refine blk_alloc ?_ _)) Tryd.underlying41 rfl (by kernel_rfl)) rfl ?_
 refine ⟨_, rfl, ?_, by repeat (first | exact Below.refl _ _ | apply below_alloc)⟩
 exact shapeR _ w.heap.size [4, 0, 5, 2, 2, 2] _ _ _ (by kernel_rfl) (by simp only [World.alloc, Array.size_push]) rfl (by omega) (by decide)
theorem shape11 (w : World) :
  Calls Tryd.prog 8 #[.int .i64 11] w fun e w' => ∃ v1_ : Value, e = .returned (.agg #[.int .u8 123, v1_]) ∧ Kd.R Kd.anyK 20 w' w.heap.size (fun _ => True) v1_ [2, 0] ∧ Below w.heap.size w w' := by
 go_enter Tryd.func8, Tryd.ntmps8
 go_wp2
 refine bodyPost_ret (results_cell_row rfl _ _ w.heap.size 41 #[.int .u8 123, .slice (some ⟨w.heap.size + 1 + 1 + 1, 0, none⟩) 2 2] (0, 0) _ rfl (by repeat (first | exact blk_new _ _ | refine blk_alloc ?_ _)) Tryd.underlying41 rfl (by kernel_rfl)) rfl ?_
 refine ⟨_, rfl, ?_, by repeat (first | exact Below.refl _ _ | apply below_alloc)⟩
 exact shapeR _ w.heap.size [2, 0] _ _ _ (by kernel_rfl) (by simp only [World.alloc, Array.size_push]) rfl (by omega) (by decide)
theorem shape12 (w : World) :
  Calls Tryd.prog 8 #[.int .i64 12] w fun e w' => ∃ v1_ : Value, e = .returned (.agg #[.int .u8 113, v1_]) ∧ Kd.R Kd.anyK 20 w' w.heap.size (fun _ => True) v1_ [0, 2, 0, 4, 4] ∧ Below w.heap.size w w' := by
 go_enter Tryd.func8, Tryd.ntmps8
 go_wp2
 refine bodyPost_ret (results_cell_row rfl _ _ w.heap.size 41 #[.int .u8 113, .slice (some ⟨w.heap.size + 1 + 1 + 1, 0, none⟩) 5 5] (0, 0) _ rfl (by repeat (first | exact blk_new _ _ | refine blk_alloc ?_ _)) Tryd.underlying41 rfl (by kernel_rfl)) rfl ?_
 refine ⟨_, rfl, ?_, by repeat (first | exact Below.refl _ _ | apply below_alloc)⟩
 exact shapeR _ w.heap.size [0, 2, 0, 4, 4] _ _ _ (by kernel_rfl) (by simp only [World.alloc, Array.size_push]) rfl (by omega) (by decide)
theorem shape13 (w : World) :
  Calls Tryd.prog 8 #[.int .i64 13] w fun e w' => ∃ v1_ : Value, e = .returned (.agg #[.int .u8 114, v1_]) ∧ Kd.R Kd.anyK 20 w' w.heap.size (fun _ => True) v1_ [4, 0] ∧ Below w.heap.size w w' := by
 go_enter Tryd.func8, Tryd.ntmps8
 go_wp2
 refine bodyPost_ret (results_cell_row rfl _ _ w.heap.size 41 #[.int .u8 114, .slice (some ⟨w.heap.size + 1 + 1 + 1, 0, none⟩) 2 2] (0, 0) _ rfl (by repeat (first | exact blk_new _ _ | refine blk_alloc ?_ _)) Tryd.underlying41 rfl (by kernel_rfl)) rfl ?_
 refine ⟨_, rfl, ?_, by repeat (first | exact Below.refl _ _ | apply below_alloc)⟩
 exact shapeR _ w.heap.size [4, 0] _ _ _ (by kernel_rfl) (by simp only [World.alloc, Array.size_push]) rfl (by omega) (by decide)
theorem shape0 (k : Int) (h : (k == 1) = false ∧ (k == 2) = false ∧ (k == 3) = false ∧ (k == 4) = false ∧ (k == 5) = false ∧ (k == 6) = false ∧ (k == 7) = false ∧ (k == 8) = false ∧ (k == 9) = false ∧ (k == 10) = false ∧ (k == 11) = false ∧ (k == 12) = false ∧ (k == 13) = false) (w : World) :
  Calls Tryd.prog 8 #[.int .i64 k] w fun e w' => ∃ v1_ : Value, e = .returned (.agg #[.int .u8 0, v1_]) ∧ Kd.R Kd.anyK 20 w' w.heap.size (fun _ => True) v1_ [] ∧ Below w.heap.size w w' := by
 obtain ⟨h1, h2, h3, h4, h5, h6, h7, h8, h9, h10, h11, h12, h13⟩ := h
 go_enter Tryd.func8, Tryd.ntmps8
 go_wp2
 refine bodyPost_ret (results_cell_row rfl _ _ w.heap.size 41 #[.int .u8 0, .slice none 0 0] (0, 0) _ rfl (by repeat (first | exact blk_new _ _ | refine blk_alloc ?_ _)) Tryd.underlying41 rfl (by kernel_rfl)) rfl ?_
 exact ⟨_, rfl, Kd.R_nil _ _ _ _ _, by repeat (first | exact Below.refl _ _ | apply below_alloc)⟩
theorem msgs_shapeOf.calls (a0 : Int) (r1 : Int) (r2 : List Int) (w : World) (h : msgs_shapeOf.f a0 = some (r1, r2)) :
  Calls Tryd.prog 8 #[.int .i64 a0] w fun e w' => ∃ v1_ : Value, e = .returned (.agg #[.int .u8 r1, v1_]) ∧ Kd.R Kd.anyK 20 w' w.heap.size (fun _ => True) v1_ r2 ∧ Below w.heap.size w w' := by
 unfold msgs_shapeOf.f shapeO at h
 by_cases h1 : a0 = 1
 ·rw [if_pos h1] at h
  obtain ⟨rfl, rfl⟩ := Prod.mk.inj (Option.some.inj h)
  subst h1
  exact shape1 w
 rw [if_neg h1] at h
 by_cases h2 : a0 = 2
 ·rw [if_pos h2] at h
  obtain ⟨rfl, rfl⟩ := Prod.mk.inj (Option.some.inj h)
  subst h2
  exact shape2 w
 rw [if_neg h2] at h
 by_cases h3 : a0 = 3
 ·rw [if_pos h3] at h
  obtain ⟨rfl, rfl⟩ := Prod.mk.inj (Option.some.inj h)
  subst h3
  exact shape3 w
 rw [if_neg h3] at h
 by_cases h4 : a0 = 4
 ·rw [if_pos h4] at h
  obtain ⟨rfl, rfl⟩ := Prod.mk.inj (Option.some.inj h)
  subst h4
  exact shape4 w
 rw [if_neg h4] at h
 by_cases h5 : a0 = 5
 ·rw [if_pos h5] at h
  obtain ⟨rfl, rfl⟩ := Prod.mk.inj (Option.some.inj h)
  subst h5
  exact shape5 w
 rw [if_neg h5] at h
 by_cases h6 : a0 = 6
 ·rw [if_pos h6] at h
  obtain ⟨rfl, rfl⟩ := Prod.mk.inj (Option.some.inj h)
  subst h6
  exact shape6 w
 rw [if_neg h6] at h
 by_cases h7 : a0 = 7
 ·rw [if_pos h7] at h
  obtain ⟨rfl, rfl⟩ := Prod.mk.inj (Option.some.inj h)
  subst h7
  exact shape7 w
 rw [if_neg h7] at h
 by_cases h8 : a0 = 8
 ·rw [if_pos h8] at h
  obtain ⟨rfl, rfl⟩ := Prod.mk.inj (Option.some.inj h)
  subst h8
  exact shape8 w
 rw [if_neg h8] at h
 by_cases h9 : a0 = 9
 ·rw [if_pos h9] at h
  obtain ⟨rfl, rfl⟩ := Prod.mk.inj (Option.some.inj h)
  subst h9
  exact shape9 w
 rw [if_neg h9] at h
 by_cases h10 : a0 = 10
 ·rw [if_pos h10] at h
  obtain ⟨rfl, rfl⟩ := Prod.mk.inj (Option.some.inj h)
  subst h10
  exact shape10 w
 rw [if_neg h10] at h
 by_cases h11 : a0 = 11
 ·rw [if_pos h11] at h
  obtain ⟨rfl, rfl⟩ := Prod.mk.inj (Option.some.inj h)
  subst h11
  exact shape11 w
 rw [if_neg h11] at h
 by_cases h12 : a0 = 12
 ·rw [if_pos h12] at h
  obtain ⟨rfl, rfl⟩ := Prod.mk.inj (Option.some.inj h)
  subst h12
  exact shape12 w
 rw [if_neg h12] at h
 by_cases h13 : a0 = 13
 ·rw [if_pos h13] at h
  obtain ⟨rfl, rfl⟩ := Prod.mk.inj (Option.some.inj h)
  subst h13
  exact shape13 w
 rw [if_neg h13] at h
 obtain ⟨rfl, rfl⟩ := Prod.mk.inj (Option.some.inj h)
 exact shape0 a0 ⟨beq_eq_false_iff_ne.mpr h1, beq_eq_false_iff_ne.mpr h2, beq_eq_false_iff_ne.mpr h3, beq_eq_false_iff_ne.mpr h4, beq_eq_false_iff_ne.mpr h5, beq_eq_false_iff_ne.mpr h6, beq_eq_false_iff_ne.mpr h7, beq_eq_false_iff_ne.mpr h8, beq_eq_false_iff_ne.mpr h9, beq_eq_false_iff_ne.mpr h10, beq_eq_false_iff_ne.mpr h11, beq_eq_false_iff_ne.mpr h12, beq_eq_false_iff_ne.mpr h13⟩ w
end Go.Proofs.YtncanijjnhkgbaaDoor.PMsgsUnlike
namespace Go.Proofs.YtncanijjnhkgbaaDoor.PMsgsUnlike
open Go.RowKit Go.Proofs.YtncanijjnhkgbaaDoorW.PrintWords Go.Proofs.YtncanijjnhkgbaaDoorW.PrintLast Go.Proofs.YtncanijjnhkgbaaDoorW.PrintMore
theorem size_nil (s : ByteArray) : (s.size = 0) = (s.toList = []) := by
 rw [ByteArray.toList_eq]
 apply propext
 constructor
 ·intro h
  exact List.eq_nil_of_length_eq_zero (by simpa using h)
 ·intro h
  have := congrArg List.length h
  simpa using this
set_option maxRecDepth 100000 in
set_option maxHeartbeats 4000000 in
theorem blank_105 (i : Int) (Ab : Option Addr) (cb : Nat) (b : List Int) (r : ByteArray) (Al : Option Addr) (cl : Nat) (l : List ByteArray) (sr : ByteArray) (As : Option Addr) (cs : Nat) (sl : List ByteArray) (e : Int) (w : World) :
  Calls Tryd.prog 14 #[.agg #[.int .i64 i, .slice Ab b.length cb, .string r, .slice Al l.length cl, .string sr, .slice As sl.length cs, .int .i64 e], .int .u8 105] w fun e' w' => e' = .returned (.bool (blankB i b r l sr sl e 105)) ∧ Below w.heap.size w w' := by
 simp only [blankB, princB, size_nil]
 generalize b.length = nb
 generalize l.length = nl
 generalize sl.length = ns
 go_enter Tryd.func14, Tryd.ntmps14
 go_wp2
 all_goals (go_ret; refine ⟨?_, by repeat (first | exact Below.refl _ _ | apply below_alloc)⟩; show Ending.returned (Value.bool _) = _; congr 2; simp [*])
set_option maxRecDepth 100000 in
set_option maxHeartbeats 4000000 in
theorem blank_111 (i : Int) (Ab : Option Addr) (cb : Nat) (b : List Int) (r : ByteArray) (Al : Option Addr) (cl : Nat) (l : List ByteArray) (sr : ByteArray) (As : Option Addr) (cs : Nat) (sl : List ByteArray) (e : Int) (w : World) :
  Calls Tryd.prog 14 #[.agg #[.int .i64 i, .slice Ab b.length cb, .string r, .slice Al l.length cl, .string sr, .slice As sl.length cs, .int .i64 e], .int .u8 111] w fun e' w' => e' = .returned (.bool (blankB i b r l sr sl e 111)) ∧ Below w.heap.size w w' := by
 simp only [blankB, princB, size_nil]
 generalize b.length = nb
 generalize l.length = nl
 generalize sl.length = ns
 go_enter Tryd.func14, Tryd.ntmps14
 go_wp2
 all_goals (go_ret; refine ⟨?_, by repeat (first | exact Below.refl _ _ | apply below_alloc)⟩; show Ending.returned (Value.bool _) = _; congr 2; simp [*])
set_option maxRecDepth 100000 in
set_option maxHeartbeats 4000000 in
theorem blank_112 (i : Int) (Ab : Option Addr) (cb : Nat) (b : List Int) (r : ByteArray) (Al : Option Addr) (cl : Nat) (l : List ByteArray) (sr : ByteArray) (As : Option Addr) (cs : Nat) (sl : List ByteArray) (e : Int) (w : World) :
  Calls Tryd.prog 14 #[.agg #[.int .i64 i, .slice Ab b.length cb, .string r, .slice Al l.length cl, .string sr, .slice As sl.length cs, .int .i64 e], .int .u8 112] w fun e' w' => e' = .returned (.bool (blankB i b r l sr sl e 112)) ∧ Below w.heap.size w w' := by
 simp only [blankB, princB, size_nil]
 generalize b.length = nb
 generalize l.length = nl
 generalize sl.length = ns
 go_enter Tryd.func14, Tryd.ntmps14
 go_wp2
 all_goals (go_ret; refine ⟨?_, by repeat (first | exact Below.refl _ _ | apply below_alloc)⟩; show Ending.returned (Value.bool _) = _; congr 2; simp [*])
set_option maxRecDepth 100000 in
set_option maxHeartbeats 4000000 in
theorem blank_107 (i : Int) (Ab : Option Addr) (cb : Nat) (b : List Int) (r : ByteArray) (Al : Option Addr) (cl : Nat) (l : List ByteArray) (sr : ByteArray) (As : Option Addr) (cs : Nat) (sl : List ByteArray) (e : Int) (w : World) :
  Calls Tryd.prog 14 #[.agg #[.int .i64 i, .slice Ab b.length cb, .string r, .slice Al l.length cl, .string sr, .slice As sl.length cs, .int .i64 e], .int .u8 107] w fun e' w' => e' = .returned (.bool (blankB i b r l sr sl e 107)) ∧ Below w.heap.size w w' := by
 simp only [blankB, princB, size_nil]
 generalize b.length = nb
 generalize l.length = nl
 generalize sl.length = ns
 go_enter Tryd.func14, Tryd.ntmps14
 go_wp2
 all_goals (go_ret; refine ⟨?_, by repeat (first | exact Below.refl _ _ | apply below_alloc)⟩; show Ending.returned (Value.bool _) = _; congr 2; simp [*])
end Go.Proofs.YtncanijjnhkgbaaDoor.PMsgsUnlike
namespace Go.Proofs.YtncanijjnhkgbaaDoor.PMsgsUnlike
open Go.RowKit Go.Proofs.YtncanijjnhkgbaaDoorW.PrintWords Go.Proofs.YtncanijjnhkgbaaDoorW.PrintLast Go.Proofs.YtncanijjnhkgbaaDoorW.PrintMore
theorem far3 {α : Type} {d : Kd α} {e base g : Nat} {W : World} {ok : Nat → Prop} {v : Value} {xs : List α} (h : Kd.V d e W base ok v xs) (hne : ∀ k, ok k → k ≠ g) (u0 u1 u2 : Value) : Kd.V d e (((W.setCell ⟨g, 0, none⟩ u0).setCell ⟨g, 1, none⟩ u1).setCell ⟨g, 2, none⟩ u2) base ok v xs :=
 Kd.V_far (Kd.V_far (Kd.V_far h hne u0) hne u1) hne u2
theorem set3 {g : Nat} {w W : World} (h : Below w.heap.size w W) (hg : w.heap.size ≤ g) (u0 u1 u2 : Value) : Below w.heap.size w (((W.setCell ⟨g, 0, none⟩ u0).setCell ⟨g, 1, none⟩ u1).setCell ⟨g, 2, none⟩ u2) :=
 below_set (below_set (below_set h hg) hg) hg
theorem put3 {g t : Nat} {W : World} {a b c : Value} (h : W.heap[g]? = some (.cells #[a, b, c] t)) (u0 u1 u2 : Value) : (((W.setCell ⟨g, 0, none⟩ u0).setCell ⟨g, 1, none⟩ u1).setCell ⟨g, 2, none⟩ u2).heap[g]? = some (.cells #[u0, u1, u2] t) :=
 blk_put (blk_put (blk_put h 0 u0 rfl) 1 u1 rfl) 2 u2 rfl
theorem off3 {g h t : Nat} {W : World} {cs : Array Value} (hk : W.heap[g]? = some (.cells cs t)) (hne : g ≠ h) (u0 u1 u2 : Value) : (((W.setCell ⟨h, 0, none⟩ u0).setCell ⟨h, 1, none⟩ u1).setCell ⟨h, 2, none⟩ u2).heap[g]? = some (.cells cs t) :=
 blk_far (blk_far (blk_far hk hne u0) hne u1) hne u2
def start3 (w : World) (bx : Array Value) : World := ((w.alloc (.cells bx 37)).alloc (.cells #[.int .u8 0, .slice none 0 0, .slice none 0 0] 45)).alloc (.cells #[.int .u8 0, .slice none 0 0, .slice none 0 0] 45)
theorem start3_size (w : World) (bx : Array Value) : (start3 w bx).heap.size = w.heap.size + 3 := by
 simp only [start3, World.alloc, Array.size_push]
theorem start3_below (w : World) (bx : Array Value) : Below w.heap.size w (start3 w bx) := below_alloc (below_alloc (below_alloc (Below.refl _ _) _) _) _
theorem start3_0 (w : World) (bx : Array Value) : (start3 w bx).heap[w.heap.size]? = some (.cells bx 37) := blk_alloc (blk_alloc (blk_new _ _) _) _
theorem start3_1 (w : World) (bx : Array Value) : (start3 w bx).heap[w.heap.size + 1]? = some (.cells #[.int .u8 0, .slice none 0 0, .slice none 0 0] 45) := by
 have h := blk_new (w.alloc (.cells bx 37)) (.cells #[.int .u8 0, .slice none 0 0, .slice none 0 0] 45)
 have h2 := blk_alloc h (.cells #[.int .u8 0, .slice none 0 0, .slice none 0 0] 45)
 simp only [start3, World.alloc, Array.size_push] at h2 ⊢
 exact h2
theorem start3_2 (w : World) (bx : Array Value) : (start3 w bx).heap[w.heap.size + 2]? = some (.cells #[.int .u8 0, .slice none 0 0, .slice none 0 0] 45) := by
 have h := blk_new ((w.alloc (.cells bx 37)).alloc (.cells #[.int .u8 0, .slice none 0 0, .slice none 0 0] 45)) (.cells #[.int .u8 0, .slice none 0 0, .slice none 0 0] 45)
 simp only [start3, World.alloc, Array.size_push] at h ⊢
 exact h
set_option maxHeartbeats 8000000 in
set_option maxRecDepth 100000 in
theorem state_int (T : Int) (body : List Int) (kids : List S45) (i : Int) (Ab : Option Addr) (cb : Nat) (b : List Int) (r : ByteArray) (Al : Option Addr) (cl : Nat) (l : List ByteArray) (sr : ByteArray) (As : Option Addr) (cs : Nat) (sl : List ByteArray) (e : Int) (w : World)
  (hN : ∀ W, Below w.heap.size w W → Calls Tryd.prog 13 #[.iface 2 (.int .i64 i)] W fun e' w' => ∃ v1 v2 : Value, e' = .returned (.tuple #[.agg #[.int .u8 T, v1, v2], .bool true]) ∧ Kd.V (Kd.int .u8) 5 w' W.heap.size (fun k => W.heap.size ≤ k) v1 body ∧ Kd.V k45 45 w' W.heap.size (fun k => W.heap.size ≤ k) v2 kids ∧ Below W.heap.size W w') :
  Calls Tryd.prog 9 #[anyV 0, .agg #[.int .i64 i, .slice Ab b.length cb, .string r, .slice Al l.length cl, .string sr, .slice As sl.length cs, .int .i64 e]] w fun e' w' => ∃ v1 v2 : Value, e' = .returned (.tuple #[.agg #[.int .u8 T, v1, v2], .bool (blankB i b r l sr sl e 105)]) ∧ Kd.V (Kd.int .u8) 5 w' w.heap.size (fun k => w.heap.size ≤ k) v1 body ∧ Kd.V k45 45 w' w.heap.size (fun k => w.heap.size ≤ k) v2 kids ∧ Below w.heap.size w w' := by
 have PN := Aside0.mk hN
 have PB := Aside0.mk (fun W => blank_105 i Ab cb b r Al cl l sr As cs sl e W)
 have t0 := any_ta0_0
 generalize blankB i b r l sr sl e 105 = P at PB ⊢
 generalize b.length = nb at PN PB ⊢
 generalize l.length = nl at PN PB ⊢
 generalize sl.length = ns at PN PB ⊢
 obtain ⟨X, hX⟩ : ∃ X, X = anyV 0 := ⟨_, rfl⟩
 rw [← hX] at t0 ⊢
 clear hX hN
 go_enter Tryd.func9, Tryd.ntmps9
 go_wp2_with (go_at_call 13; refine (PN.out _ (start3_below w #[.int .i64 i, .slice Ab nb cb, .string r, .slice Al nl cl, .string sr, .slice As ns cs, .int .i64 e])).mono ?_; rintro e' w1 ⟨v1, v2, rfl, hV1, hV2, hb⟩; obtain ⟨A1, c1, rfl⟩ := Kd.V_slice hV1; obtain ⟨A2, c2, rfl⟩ := Kd.V_slice hV2; generalize hm1 : body.length = m1 at hV1 ⊢; generalize hm2 : kids.length = m2 at hV2 ⊢; have P1 := Aside0.mk (And.intro hV1 (And.intro hV2 hb)); clear hV1 hV2 hb hm1 hm2)
 obtain ⟨o, ho⟩ : ∃ o, Obj.cells #[.int .u8 T, .slice A1 m1 c1, .slice A2 m2 c2] 45 = o := ⟨_, rfl⟩
 have kb := blk_alloc (blk_below (start3_0 w #[.int .i64 i, .slice Ab nb cb, .string r, .slice Al nl cl, .string sr, .slice As ns cs, .int .i64 e]) P1.out.2.2) o
 have kr := blk_alloc (blk_below (start3_1 w #[.int .i64 i, .slice Ab nb cb, .string r, .slice Al nl cl, .string sr, .slice As ns cs, .int .i64 e]) P1.out.2.2) o
 have kn := blk_new w1 o
 have hlt : w.heap.size + 2 < w1.heap.size := blk_lt (blk_below (start3_2 w #[.int .i64 i, .slice Ab nb cb, .string r, .slice Al nl cl, .string sr, .slice As ns cs, .int .i64 e]) P1.out.2.2)
 have hV1 := Kd.V_alloc P1.out.1 o
 have hV2 := Kd.V_alloc P1.out.2.1 o
 have hB := below_alloc (below_step (start3_below w #[.int .i64 i, .slice Ab nb cb, .string r, .slice Al nl cl, .string sr, .slice As ns cs, .int .i64 e]) P1.out.2.2) o
 rw [ho]
 generalize w1.alloc o = W at kb kr kn hV1 hV2 hB ⊢
 rw [← ho] at kn
 clear ho
 have b0 : W.cell? ⟨w.heap.size, 0, none⟩ = some (.int .i64 i) := (blk_cell kb 0).trans rfl
 have b1 : W.cell? ⟨w.heap.size, 1, none⟩ = some (.slice Ab nb cb) := (blk_cell kb 1).trans rfl
 have b2 : W.cell? ⟨w.heap.size, 2, none⟩ = some (.string r) := (blk_cell kb 2).trans rfl
 have b3 : W.cell? ⟨w.heap.size, 3, none⟩ = some (.slice Al nl cl) := (blk_cell kb 3).trans rfl
 have b4 : W.cell? ⟨w.heap.size, 4, none⟩ = some (.string sr) := (blk_cell kb 4).trans rfl
 have b5 : W.cell? ⟨w.heap.size, 5, none⟩ = some (.slice As ns cs) := (blk_cell kb 5).trans rfl
 have b6 : W.cell? ⟨w.heap.size, 6, none⟩ = some (.int .i64 e) := (blk_cell kb 6).trans rfl
 have x0 : W.cell? ⟨w1.heap.size, 0, none⟩ = some (.int .u8 T) := (blk_cell kn 0).trans rfl
 have x1 : W.cell? ⟨w1.heap.size, 1, none⟩ = some (.slice A1 m1 c1) := (blk_cell kn 1).trans rfl
 have x2 : W.cell? ⟨w1.heap.size, 2, none⟩ = some (.slice A2 m2 c2) := (blk_cell kn 2).trans rfl
 have r0 := (blk_cell kr 0).trans rfl
 have y0 := blk_frozen kr 0
 have r1 := (blk_cell kr 1).trans rfl
 have y1 := blk_frozen kr 1
 have r2 := (blk_cell kr 2).trans rfl
 have y2 := blk_frozen kr 2
 have PK := Aside0.mk (And.intro (fun (w' : World) (hb : Below W.heap.size W w') => blk_below kr hb) (And.intro (fun (w' : World) (hb : Below W.heap.size W w') => blk_below kb hb) (And.intro (fun (w' : World) (hb : Below W.heap.size W w') => blk_below kn hb) (And.intro hV1 (And.intro hV2 hB)))))
 have PW0 := Aside0.mk (And.intro (Below.refl W.heap.size W) kr)
 have hne : w.heap.size + 1 ≠ w1.heap.size := by omega
 have hne2 := hne.symm
 have hne3 : w.heap.size ≠ w1.heap.size := by omega
 have hne4 := hne3.symm
 clear kb kr kn hV1 hV2 hB P1 hlt
 go_region_held3 (fun w' => w'.cell? ⟨w.heap.size, 0, none⟩ = some (.int .i64 i) ∧ w'.cell? ⟨w.heap.size, 1, none⟩ = some (.slice Ab nb cb) ∧ w'.cell? ⟨w.heap.size, 2, none⟩ = some (.string r) ∧ w'.cell? ⟨w.heap.size, 3, none⟩ = some (.slice Al nl cl) ∧ w'.cell? ⟨w.heap.size, 4, none⟩ = some (.string sr) ∧ w'.cell? ⟨w.heap.size, 5, none⟩ = some (.slice As ns cs) ∧ w'.cell? ⟨w.heap.size, 6, none⟩ = some (.int .i64 e) ∧ w'.cell? ⟨w1.heap.size, 0, none⟩ = some (.int .u8 T) ∧ w'.cell? ⟨w1.heap.size, 1, none⟩ = some (.slice A1 m1 c1) ∧ w'.cell? ⟨w1.heap.size, 2, none⟩ = some (.slice A2 m2 c2)) (go_keep) (first | (go_at_call 14; refine (PB.out _).mono ?_; rintro e' w' ⟨rfl, hb⟩; have hbW : Below W.heap.size W w' := (by first | exact hb | exact below_step (below_drew1 (Below.refl _ _)) hb); have kb2 := PK.out.2.1 w' hbW; have kr2 := PK.out.1 w' hbW; have kn2 := PK.out.2.2.1 w' hbW; have b20 := (blk_cell kb2 0).trans rfl; have b21 := (blk_cell kb2 1).trans rfl; have b22 := (blk_cell kb2 2).trans rfl; have b23 := (blk_cell kb2 3).trans rfl; have b24 := (blk_cell kb2 4).trans rfl; have b25 := (blk_cell kb2 5).trans rfl; have b26 := (blk_cell kb2 6).trans rfl; have x20 := (blk_cell kn2 0).trans rfl; have r20 := (blk_cell kr2 0).trans rfl; have y20 := blk_frozen kr2 0; have x21 := (blk_cell kn2 1).trans rfl; have r21 := (blk_cell kr2 1).trans rfl; have y21 := blk_frozen kr2 1; have x22 := (blk_cell kn2 2).trans rfl; have r22 := (blk_cell kr2 2).trans rfl; have y22 := blk_frozen kr2 2; have PW := Aside0.mk (And.intro hbW kr2); clear hb hbW kb2 kr2 kn2))
 go_wp2
 have kf := put3 PW.out.2 (.int .u8 T) (.slice A1 m1 c1) (.slice A2 m2 c2)
 refine bodyPost_ret (results_ct rfl _ _ (w.heap.size + 1) 45 #[.int .u8 T, .slice A1 m1 c1, .slice A2 m2 c2] (0, 0) _ rfl (by first | exact kf | exact blk_drew kf) Tryd.underlying45 rfl (by kernel_rfl)) rfl ?_
 have hk1 : ∀ k, (start3 w #[.int .i64 i, .slice Ab nb cb, .string r, .slice Al nl cl, .string sr, .slice As ns cs, .int .i64 e]).heap.size ≤ k → k ≠ w.heap.size + 1 := fun k hk => by rw [start3_size] at hk; omega
 have hk2 : ∀ k, (start3 w #[.int .i64 i, .slice Ab nb cb, .string r, .slice Al nl cl, .string sr, .slice As ns cs, .int .i64 e]).heap.size ≤ k → w.heap.size ≤ k := fun k hk => by rw [start3_size] at hk; omega
 have q1 := far3 (Kd.V_below PK.out.2.2.2.1 PW.out.1) hk1 (.int .u8 T) (.slice A1 m1 c1) (.slice A2 m2 c2)
 have q2 := far3 (Kd.V_below PK.out.2.2.2.2.1 PW.out.1) hk1 (.int .u8 T) (.slice A1 m1 c1) (.slice A2 m2 c2)
 have q3 := set3 (below_step PK.out.2.2.2.2.2 PW.out.1) (Nat.le_succ w.heap.size) (.int .u8 T) (.slice A1 m1 c1) (.slice A2 m2 c2)
 exact ⟨_, _, rfl, by first | exact Kd.V_mono q1 hk2 | exact Kd.V_drew (Kd.V_mono q1 hk2), by first | exact Kd.V_mono q2 hk2 | exact Kd.V_drew (Kd.V_mono q2 hk2), by first | exact q3 | exact below_drew1 q3⟩
set_option maxHeartbeats 8000000 in
set_option maxRecDepth 100000 in
theorem state_time (T : Int) (body : List Int) (kids : List S45) (i : Int) (Ab : Option Addr) (cb : Nat) (b : List Int) (r : ByteArray) (Al : Option Addr) (cl : Nat) (l : List ByteArray) (sr : ByteArray) (As : Option Addr) (cs : Nat) (sl : List ByteArray) (e : Int) (w : World)
  (hN : ∀ W, Below w.heap.size w W → Calls Tryd.prog 13 #[.iface 51 (.int .i64 i)] W fun e' w' => ∃ v1 v2 : Value, e' = .returned (.tuple #[.agg #[.int .u8 T, v1, v2], .bool true]) ∧ Kd.V (Kd.int .u8) 5 w' W.heap.size (fun k => W.heap.size ≤ k) v1 body ∧ Kd.V k45 45 w' W.heap.size (fun k => W.heap.size ≤ k) v2 kids ∧ Below W.heap.size W w') :
  Calls Tryd.prog 9 #[anyV 2, .agg #[.int .i64 i, .slice Ab b.length cb, .string r, .slice Al l.length cl, .string sr, .slice As sl.length cs, .int .i64 e]] w fun e' w' => ∃ v1 v2 : Value, e' = .returned (.tuple #[.agg #[.int .u8 T, v1, v2], .bool (blankB i b r l sr sl e 105)]) ∧ Kd.V (Kd.int .u8) 5 w' w.heap.size (fun k => w.heap.size ≤ k) v1 body ∧ Kd.V k45 45 w' w.heap.size (fun k => w.heap.size ≤ k) v2 kids ∧ Below w.heap.size w w' := by
 have PN := Aside0.mk hN
 have PB := Aside0.mk (fun W => blank_105 i Ab cb b r Al cl l sr As cs sl e W)
 have t0 := any_ta2_0
 have t1 := any_ta2_1
 have t2 := any_ta2_2
 generalize blankB i b r l sr sl e 105 = P at PB ⊢
 generalize b.length = nb at PN PB ⊢
 generalize l.length = nl at PN PB ⊢
 generalize sl.length = ns at PN PB ⊢
 obtain ⟨X, hX⟩ : ∃ X, X = anyV 2 := ⟨_, rfl⟩
 rw [← hX] at t0 t1 t2 ⊢
 clear hX hN
 go_enter Tryd.func9, Tryd.ntmps9
 go_wp2_with (go_at_call 13; refine (PN.out _ (start3_below w #[.int .i64 i, .slice Ab nb cb, .string r, .slice Al nl cl, .string sr, .slice As ns cs, .int .i64 e])).mono ?_; rintro e' w1 ⟨v1, v2, rfl, hV1, hV2, hb⟩; obtain ⟨A1, c1, rfl⟩ := Kd.V_slice hV1; obtain ⟨A2, c2, rfl⟩ := Kd.V_slice hV2; generalize hm1 : body.length = m1 at hV1 ⊢; generalize hm2 : kids.length = m2 at hV2 ⊢; have P1 := Aside0.mk (And.intro hV1 (And.intro hV2 hb)); clear hV1 hV2 hb hm1 hm2)
 obtain ⟨o, ho⟩ : ∃ o, Obj.cells #[.int .u8 T, .slice A1 m1 c1, .slice A2 m2 c2] 45 = o := ⟨_, rfl⟩
 have kb := blk_alloc (blk_below (start3_0 w #[.int .i64 i, .slice Ab nb cb, .string r, .slice Al nl cl, .string sr, .slice As ns cs, .int .i64 e]) P1.out.2.2) o
 have kr := blk_alloc (blk_below (start3_1 w #[.int .i64 i, .slice Ab nb cb, .string r, .slice Al nl cl, .string sr, .slice As ns cs, .int .i64 e]) P1.out.2.2) o
 have kn := blk_new w1 o
 have hlt : w.heap.size + 2 < w1.heap.size := blk_lt (blk_below (start3_2 w #[.int .i64 i, .slice Ab nb cb, .string r, .slice Al nl cl, .string sr, .slice As ns cs, .int .i64 e]) P1.out.2.2)
 have hV1 := Kd.V_alloc P1.out.1 o
 have hV2 := Kd.V_alloc P1.out.2.1 o
 have hB := below_alloc (below_step (start3_below w #[.int .i64 i, .slice Ab nb cb, .string r, .slice Al nl cl, .string sr, .slice As ns cs, .int .i64 e]) P1.out.2.2) o
 rw [ho]
 generalize w1.alloc o = W at kb kr kn hV1 hV2 hB ⊢
 rw [← ho] at kn
 clear ho
 have b0 : W.cell? ⟨w.heap.size, 0, none⟩ = some (.int .i64 i) := (blk_cell kb 0).trans rfl
 have b1 : W.cell? ⟨w.heap.size, 1, none⟩ = some (.slice Ab nb cb) := (blk_cell kb 1).trans rfl
 have b2 : W.cell? ⟨w.heap.size, 2, none⟩ = some (.string r) := (blk_cell kb 2).trans rfl
 have b3 : W.cell? ⟨w.heap.size, 3, none⟩ = some (.slice Al nl cl) := (blk_cell kb 3).trans rfl
 have b4 : W.cell? ⟨w.heap.size, 4, none⟩ = some (.string sr) := (blk_cell kb 4).trans rfl
 have b5 : W.cell? ⟨w.heap.size, 5, none⟩ = some (.slice As ns cs) := (blk_cell kb 5).trans rfl
 have b6 : W.cell? ⟨w.heap.size, 6, none⟩ = some (.int .i64 e) := (blk_cell kb 6).trans rfl
 have x0 : W.cell? ⟨w1.heap.size, 0, none⟩ = some (.int .u8 T) := (blk_cell kn 0).trans rfl
 have x1 : W.cell? ⟨w1.heap.size, 1, none⟩ = some (.slice A1 m1 c1) := (blk_cell kn 1).trans rfl
 have x2 : W.cell? ⟨w1.heap.size, 2, none⟩ = some (.slice A2 m2 c2) := (blk_cell kn 2).trans rfl
 have r0 := (blk_cell kr 0).trans rfl
 have y0 := blk_frozen kr 0
 have r1 := (blk_cell kr 1).trans rfl
 have y1 := blk_frozen kr 1
 have r2 := (blk_cell kr 2).trans rfl
 have y2 := blk_frozen kr 2
 have PK := Aside0.mk (And.intro (fun (w' : World) (hb : Below W.heap.size W w') => blk_below kr hb) (And.intro (fun (w' : World) (hb : Below W.heap.size W w') => blk_below kb hb) (And.intro (fun (w' : World) (hb : Below W.heap.size W w') => blk_below kn hb) (And.intro hV1 (And.intro hV2 hB)))))
 have PW0 := Aside0.mk (And.intro (Below.refl W.heap.size W) kr)
 have hne : w.heap.size + 1 ≠ w1.heap.size := by omega
 have hne2 := hne.symm
 have hne3 : w.heap.size ≠ w1.heap.size := by omega
 have hne4 := hne3.symm
 clear kb kr kn hV1 hV2 hB P1 hlt
 go_region_held3 (fun w' => w'.cell? ⟨w.heap.size, 0, none⟩ = some (.int .i64 i) ∧ w'.cell? ⟨w.heap.size, 1, none⟩ = some (.slice Ab nb cb) ∧ w'.cell? ⟨w.heap.size, 2, none⟩ = some (.string r) ∧ w'.cell? ⟨w.heap.size, 3, none⟩ = some (.slice Al nl cl) ∧ w'.cell? ⟨w.heap.size, 4, none⟩ = some (.string sr) ∧ w'.cell? ⟨w.heap.size, 5, none⟩ = some (.slice As ns cs) ∧ w'.cell? ⟨w.heap.size, 6, none⟩ = some (.int .i64 e) ∧ w'.cell? ⟨w1.heap.size, 0, none⟩ = some (.int .u8 T) ∧ w'.cell? ⟨w1.heap.size, 1, none⟩ = some (.slice A1 m1 c1) ∧ w'.cell? ⟨w1.heap.size, 2, none⟩ = some (.slice A2 m2 c2)) (go_keep) (first | (go_at_call 14; refine (PB.out _).mono ?_; rintro e' w' ⟨rfl, hb⟩; have hbW : Below W.heap.size W w' := (by first | exact hb | exact below_step (below_drew1 (Below.refl _ _)) hb); have kb2 := PK.out.2.1 w' hbW; have kr2 := PK.out.1 w' hbW; have kn2 := PK.out.2.2.1 w' hbW; have b20 := (blk_cell kb2 0).trans rfl; have b21 := (blk_cell kb2 1).trans rfl; have b22 := (blk_cell kb2 2).trans rfl; have b23 := (blk_cell kb2 3).trans rfl; have b24 := (blk_cell kb2 4).trans rfl; have b25 := (blk_cell kb2 5).trans rfl; have b26 := (blk_cell kb2 6).trans rfl; have x20 := (blk_cell kn2 0).trans rfl; have r20 := (blk_cell kr2 0).trans rfl; have y20 := blk_frozen kr2 0; have x21 := (blk_cell kn2 1).trans rfl; have r21 := (blk_cell kr2 1).trans rfl; have y21 := blk_frozen kr2 1; have x22 := (blk_cell kn2 2).trans rfl; have r22 := (blk_cell kr2 2).trans rfl; have y22 := blk_frozen kr2 2; have PW := Aside0.mk (And.intro hbW kr2); clear hb hbW kb2 kr2 kn2))
 go_wp2
 have kf := put3 PW.out.2 (.int .u8 T) (.slice A1 m1 c1) (.slice A2 m2 c2)
 refine bodyPost_ret (results_ct rfl _ _ (w.heap.size + 1) 45 #[.int .u8 T, .slice A1 m1 c1, .slice A2 m2 c2] (0, 0) _ rfl (by first | exact kf | exact blk_drew kf) Tryd.underlying45 rfl (by kernel_rfl)) rfl ?_
 have hk1 : ∀ k, (start3 w #[.int .i64 i, .slice Ab nb cb, .string r, .slice Al nl cl, .string sr, .slice As ns cs, .int .i64 e]).heap.size ≤ k → k ≠ w.heap.size + 1 := fun k hk => by rw [start3_size] at hk; omega
 have hk2 : ∀ k, (start3 w #[.int .i64 i, .slice Ab nb cb, .string r, .slice Al nl cl, .string sr, .slice As ns cs, .int .i64 e]).heap.size ≤ k → w.heap.size ≤ k := fun k hk => by rw [start3_size] at hk; omega
 have q1 := far3 (Kd.V_below PK.out.2.2.2.1 PW.out.1) hk1 (.int .u8 T) (.slice A1 m1 c1) (.slice A2 m2 c2)
 have q2 := far3 (Kd.V_below PK.out.2.2.2.2.1 PW.out.1) hk1 (.int .u8 T) (.slice A1 m1 c1) (.slice A2 m2 c2)
 have q3 := set3 (below_step PK.out.2.2.2.2.2 PW.out.1) (Nat.le_succ w.heap.size) (.int .u8 T) (.slice A1 m1 c1) (.slice A2 m2 c2)
 exact ⟨_, _, rfl, by first | exact Kd.V_mono q1 hk2 | exact Kd.V_drew (Kd.V_mono q1 hk2), by first | exact Kd.V_mono q2 hk2 | exact Kd.V_drew (Kd.V_mono q2 hk2), by first | exact q3 | exact below_drew1 q3⟩
set_option maxHeartbeats 8000000 in
set_option maxRecDepth 100000 in
theorem state_time_no (T : Int) (body : List Int) (kids : List S45) (i : Int) (Ab : Option Addr) (cb : Nat) (b : List Int) (r : ByteArray) (Al : Option Addr) (cl : Nat) (l : List ByteArray) (sr : ByteArray) (As : Option Addr) (cs : Nat) (sl : List ByteArray) (e : Int) (w : World)
  (hN : ∀ W, Below w.heap.size w W → Calls Tryd.prog 13 #[.iface 51 (.int .i64 i)] W fun e' w' => ∃ v1 v2 : Value, e' = .returned (.tuple #[.agg #[.int .u8 T, v1, v2], .bool false]) ∧ Kd.V (Kd.int .u8) 5 w' W.heap.size (fun k => W.heap.size ≤ k) v1 body ∧ Kd.V k45 45 w' W.heap.size (fun k => W.heap.size ≤ k) v2 kids ∧ Below W.heap.size W w') :
  Calls Tryd.prog 9 #[anyV 2, .agg #[.int .i64 i, .slice Ab b.length cb, .string r, .slice Al l.length cl, .string sr, .slice As sl.length cs, .int .i64 e]] w fun e' w' => ∃ v1 v2 : Value, e' = .returned (.tuple #[.agg #[.int .u8 T, v1, v2], .bool false]) ∧ Kd.V (Kd.int .u8) 5 w' w.heap.size (fun k => w.heap.size ≤ k) v1 body ∧ Kd.V k45 45 w' w.heap.size (fun k => w.heap.size ≤ k) v2 kids ∧ Below w.heap.size w w' := by
 have PN := Aside0.mk hN
 have t0 := any_ta2_0
 have t1 := any_ta2_1
 have t2 := any_ta2_2
 generalize b.length = nb at PN ⊢
 generalize l.length = nl at PN ⊢
 generalize sl.length = ns at PN ⊢
 obtain ⟨X, hX⟩ : ∃ X, X = anyV 2 := ⟨_, rfl⟩
 rw [← hX] at t0 t1 t2 ⊢
 clear hX hN
 go_enter Tryd.func9, Tryd.ntmps9
 go_wp2_with (go_at_call 13; refine (PN.out _ (start3_below w #[.int .i64 i, .slice Ab nb cb, .string r, .slice Al nl cl, .string sr, .slice As ns cs, .int .i64 e])).mono ?_; rintro e' w1 ⟨v1, v2, rfl, hV1, hV2, hb⟩; obtain ⟨A1, c1, rfl⟩ := Kd.V_slice hV1; obtain ⟨A2, c2, rfl⟩ := Kd.V_slice hV2; generalize hm1 : body.length = m1 at hV1 ⊢; generalize hm2 : kids.length = m2 at hV2 ⊢; have P1 := Aside0.mk (And.intro hV1 (And.intro hV2 hb)); clear hV1 hV2 hb hm1 hm2)
 obtain ⟨o, ho⟩ : ∃ o, Obj.cells #[.int .u8 T, .slice A1 m1 c1, .slice A2 m2 c2] 45 = o := ⟨_, rfl⟩
 have kb := blk_alloc (blk_below (start3_0 w #[.int .i64 i, .slice Ab nb cb, .string r, .slice Al nl cl, .string sr, .slice As ns cs, .int .i64 e]) P1.out.2.2) o
 have kr := blk_alloc (blk_below (start3_1 w #[.int .i64 i, .slice Ab nb cb, .string r, .slice Al nl cl, .string sr, .slice As ns cs, .int .i64 e]) P1.out.2.2) o
 have kn := blk_new w1 o
 have hlt : w.heap.size + 2 < w1.heap.size := blk_lt (blk_below (start3_2 w #[.int .i64 i, .slice Ab nb cb, .string r, .slice Al nl cl, .string sr, .slice As ns cs, .int .i64 e]) P1.out.2.2)
 have hV1 := Kd.V_alloc P1.out.1 o
 have hV2 := Kd.V_alloc P1.out.2.1 o
 have hB := below_alloc (below_step (start3_below w #[.int .i64 i, .slice Ab nb cb, .string r, .slice Al nl cl, .string sr, .slice As ns cs, .int .i64 e]) P1.out.2.2) o
 rw [ho]
 generalize w1.alloc o = W at kb kr kn hV1 hV2 hB ⊢
 rw [← ho] at kn
 clear ho
 have b0 : W.cell? ⟨w.heap.size, 0, none⟩ = some (.int .i64 i) := (blk_cell kb 0).trans rfl
 have b1 : W.cell? ⟨w.heap.size, 1, none⟩ = some (.slice Ab nb cb) := (blk_cell kb 1).trans rfl
 have b2 : W.cell? ⟨w.heap.size, 2, none⟩ = some (.string r) := (blk_cell kb 2).trans rfl
 have b3 : W.cell? ⟨w.heap.size, 3, none⟩ = some (.slice Al nl cl) := (blk_cell kb 3).trans rfl
 have b4 : W.cell? ⟨w.heap.size, 4, none⟩ = some (.string sr) := (blk_cell kb 4).trans rfl
 have b5 : W.cell? ⟨w.heap.size, 5, none⟩ = some (.slice As ns cs) := (blk_cell kb 5).trans rfl
 have b6 : W.cell? ⟨w.heap.size, 6, none⟩ = some (.int .i64 e) := (blk_cell kb 6).trans rfl
 have x0 : W.cell? ⟨w1.heap.size, 0, none⟩ = some (.int .u8 T) := (blk_cell kn 0).trans rfl
 have x1 : W.cell? ⟨w1.heap.size, 1, none⟩ = some (.slice A1 m1 c1) := (blk_cell kn 1).trans rfl
 have x2 : W.cell? ⟨w1.heap.size, 2, none⟩ = some (.slice A2 m2 c2) := (blk_cell kn 2).trans rfl
 have r0 := (blk_cell kr 0).trans rfl
 have y0 := blk_frozen kr 0
 have r1 := (blk_cell kr 1).trans rfl
 have y1 := blk_frozen kr 1
 have r2 := (blk_cell kr 2).trans rfl
 have y2 := blk_frozen kr 2
 have PK := Aside0.mk (And.intro (fun (w' : World) (hb : Below W.heap.size W w') => blk_below kr hb) (And.intro (fun (w' : World) (hb : Below W.heap.size W w') => blk_below kb hb) (And.intro (fun (w' : World) (hb : Below W.heap.size W w') => blk_below kn hb) (And.intro hV1 (And.intro hV2 hB)))))
 have PW0 := Aside0.mk (And.intro (Below.refl W.heap.size W) kr)
 have hne : w.heap.size + 1 ≠ w1.heap.size := by omega
 have hne2 := hne.symm
 have hne3 : w.heap.size ≠ w1.heap.size := by omega
 have hne4 := hne3.symm
 clear kb kr kn hV1 hV2 hB P1 hlt
 go_region
 go_wp2
 have kf := put3 PW0.out.2 (.int .u8 T) (.slice A1 m1 c1) (.slice A2 m2 c2)
 refine bodyPost_ret (results_ct rfl _ _ (w.heap.size + 1) 45 #[.int .u8 T, .slice A1 m1 c1, .slice A2 m2 c2] (0, 0) _ rfl (by first | exact kf | exact blk_drew kf) Tryd.underlying45 rfl (by kernel_rfl)) rfl ?_
 have hk1 : ∀ k, (start3 w #[.int .i64 i, .slice Ab nb cb, .string r, .slice Al nl cl, .string sr, .slice As ns cs, .int .i64 e]).heap.size ≤ k → k ≠ w.heap.size + 1 := fun k hk => by rw [start3_size] at hk; omega
 have hk2 : ∀ k, (start3 w #[.int .i64 i, .slice Ab nb cb, .string r, .slice Al nl cl, .string sr, .slice As ns cs, .int .i64 e]).heap.size ≤ k → w.heap.size ≤ k := fun k hk => by rw [start3_size] at hk; omega
 have q1 := far3 (Kd.V_below PK.out.2.2.2.1 PW0.out.1) hk1 (.int .u8 T) (.slice A1 m1 c1) (.slice A2 m2 c2)
 have q2 := far3 (Kd.V_below PK.out.2.2.2.2.1 PW0.out.1) hk1 (.int .u8 T) (.slice A1 m1 c1) (.slice A2 m2 c2)
 have q3 := set3 (below_step PK.out.2.2.2.2.2 PW0.out.1) (Nat.le_succ w.heap.size) (.int .u8 T) (.slice A1 m1 c1) (.slice A2 m2 c2)
 exact ⟨_, _, rfl, by first | exact Kd.V_mono q1 hk2 | exact Kd.V_drew (Kd.V_mono q1 hk2), by first | exact Kd.V_mono q2 hk2 | exact Kd.V_drew (Kd.V_mono q2 hk2), by first | exact q3 | exact below_drew1 q3⟩
set_option maxHeartbeats 8000000 in
set_option maxRecDepth 100000 in
theorem state_handle (T : Int) (body : List Int) (kids : List S45) (i : Int) (Ab : Option Addr) (cb : Nat) (b : List Int) (r : ByteArray) (Al : Option Addr) (cl : Nat) (l : List ByteArray) (sr : ByteArray) (As : Option Addr) (cs : Nat) (sl : List ByteArray) (e : Int) (w : World)
  (hN : ∀ W, Below w.heap.size w W → Calls Tryd.prog 13 #[.iface 52 (.int .i64 i)] W fun e' w' => ∃ v1 v2 : Value, e' = .returned (.tuple #[.agg #[.int .u8 T, v1, v2], .bool true]) ∧ Kd.V (Kd.int .u8) 5 w' W.heap.size (fun k => W.heap.size ≤ k) v1 body ∧ Kd.V k45 45 w' W.heap.size (fun k => W.heap.size ≤ k) v2 kids ∧ Below W.heap.size W w') :
  Calls Tryd.prog 9 #[anyV 4, .agg #[.int .i64 i, .slice Ab b.length cb, .string r, .slice Al l.length cl, .string sr, .slice As sl.length cs, .int .i64 e]] w fun e' w' => ∃ v1 v2 : Value, e' = .returned (.tuple #[.agg #[.int .u8 T, v1, v2], .bool (blankB i b r l sr sl e 105)]) ∧ Kd.V (Kd.int .u8) 5 w' w.heap.size (fun k => w.heap.size ≤ k) v1 body ∧ Kd.V k45 45 w' w.heap.size (fun k => w.heap.size ≤ k) v2 kids ∧ Below w.heap.size w w' := by
 have PN := Aside0.mk hN
 have PB := Aside0.mk (fun W => blank_105 i Ab cb b r Al cl l sr As cs sl e W)
 have t0 := any_ta4_0
 have t1 := any_ta4_1
 have t2 := any_ta4_2
 have t4 := any_ta4_4
 generalize blankB i b r l sr sl e 105 = P at PB ⊢
 generalize b.length = nb at PN PB ⊢
 generalize l.length = nl at PN PB ⊢
 generalize sl.length = ns at PN PB ⊢
 obtain ⟨X, hX⟩ : ∃ X, X = anyV 4 := ⟨_, rfl⟩
 rw [← hX] at t0 t1 t2 t4 ⊢
 clear hX hN
 go_enter Tryd.func9, Tryd.ntmps9
 go_wp2_with (go_at_call 13; refine (PN.out _ (start3_below w #[.int .i64 i, .slice Ab nb cb, .string r, .slice Al nl cl, .string sr, .slice As ns cs, .int .i64 e])).mono ?_; rintro e' w1 ⟨v1, v2, rfl, hV1, hV2, hb⟩; obtain ⟨A1, c1, rfl⟩ := Kd.V_slice hV1; obtain ⟨A2, c2, rfl⟩ := Kd.V_slice hV2; generalize hm1 : body.length = m1 at hV1 ⊢; generalize hm2 : kids.length = m2 at hV2 ⊢; have P1 := Aside0.mk (And.intro hV1 (And.intro hV2 hb)); clear hV1 hV2 hb hm1 hm2)
 obtain ⟨o, ho⟩ : ∃ o, Obj.cells #[.int .u8 T, .slice A1 m1 c1, .slice A2 m2 c2] 45 = o := ⟨_, rfl⟩
 have kb := blk_alloc (blk_below (start3_0 w #[.int .i64 i, .slice Ab nb cb, .string r, .slice Al nl cl, .string sr, .slice As ns cs, .int .i64 e]) P1.out.2.2) o
 have kr := blk_alloc (blk_below (start3_1 w #[.int .i64 i, .slice Ab nb cb, .string r, .slice Al nl cl, .string sr, .slice As ns cs, .int .i64 e]) P1.out.2.2) o
 have kn := blk_new w1 o
 have hlt : w.heap.size + 2 < w1.heap.size := blk_lt (blk_below (start3_2 w #[.int .i64 i, .slice Ab nb cb, .string r, .slice Al nl cl, .string sr, .slice As ns cs, .int .i64 e]) P1.out.2.2)
 have hV1 := Kd.V_alloc P1.out.1 o
 have hV2 := Kd.V_alloc P1.out.2.1 o
 have hB := below_alloc (below_step (start3_below w #[.int .i64 i, .slice Ab nb cb, .string r, .slice Al nl cl, .string sr, .slice As ns cs, .int .i64 e]) P1.out.2.2) o
 rw [ho]
 generalize w1.alloc o = W at kb kr kn hV1 hV2 hB ⊢
 rw [← ho] at kn
 clear ho
 have b0 : W.cell? ⟨w.heap.size, 0, none⟩ = some (.int .i64 i) := (blk_cell kb 0).trans rfl
 have b1 : W.cell? ⟨w.heap.size, 1, none⟩ = some (.slice Ab nb cb) := (blk_cell kb 1).trans rfl
 have b2 : W.cell? ⟨w.heap.size, 2, none⟩ = some (.string r) := (blk_cell kb 2).trans rfl
 have b3 : W.cell? ⟨w.heap.size, 3, none⟩ = some (.slice Al nl cl) := (blk_cell kb 3).trans rfl
 have b4 : W.cell? ⟨w.heap.size, 4, none⟩ = some (.string sr) := (blk_cell kb 4).trans rfl
 have b5 : W.cell? ⟨w.heap.size, 5, none⟩ = some (.slice As ns cs) := (blk_cell kb 5).trans rfl
 have b6 : W.cell? ⟨w.heap.size, 6, none⟩ = some (.int .i64 e) := (blk_cell kb 6).trans rfl
 have x0 : W.cell? ⟨w1.heap.size, 0, none⟩ = some (.int .u8 T) := (blk_cell kn 0).trans rfl
 have x1 : W.cell? ⟨w1.heap.size, 1, none⟩ = some (.slice A1 m1 c1) := (blk_cell kn 1).trans rfl
 have x2 : W.cell? ⟨w1.heap.size, 2, none⟩ = some (.slice A2 m2 c2) := (blk_cell kn 2).trans rfl
 have r0 := (blk_cell kr 0).trans rfl
 have y0 := blk_frozen kr 0
 have r1 := (blk_cell kr 1).trans rfl
 have y1 := blk_frozen kr 1
 have r2 := (blk_cell kr 2).trans rfl
 have y2 := blk_frozen kr 2
 have PK := Aside0.mk (And.intro (fun (w' : World) (hb : Below W.heap.size W w') => blk_below kr hb) (And.intro (fun (w' : World) (hb : Below W.heap.size W w') => blk_below kb hb) (And.intro (fun (w' : World) (hb : Below W.heap.size W w') => blk_below kn hb) (And.intro hV1 (And.intro hV2 hB)))))
 have PW0 := Aside0.mk (And.intro (Below.refl W.heap.size W) kr)
 have hne : w.heap.size + 1 ≠ w1.heap.size := by omega
 have hne2 := hne.symm
 have hne3 : w.heap.size ≠ w1.heap.size := by omega
 have hne4 := hne3.symm
 clear kb kr kn hV1 hV2 hB P1 hlt
 go_region_held3 (fun w' => w'.cell? ⟨w.heap.size, 0, none⟩ = some (.int .i64 i) ∧ w'.cell? ⟨w.heap.size, 1, none⟩ = some (.slice Ab nb cb) ∧ w'.cell? ⟨w.heap.size, 2, none⟩ = some (.string r) ∧ w'.cell? ⟨w.heap.size, 3, none⟩ = some (.slice Al nl cl) ∧ w'.cell? ⟨w.heap.size, 4, none⟩ = some (.string sr) ∧ w'.cell? ⟨w.heap.size, 5, none⟩ = some (.slice As ns cs) ∧ w'.cell? ⟨w.heap.size, 6, none⟩ = some (.int .i64 e) ∧ w'.cell? ⟨w1.heap.size, 0, none⟩ = some (.int .u8 T) ∧ w'.cell? ⟨w1.heap.size, 1, none⟩ = some (.slice A1 m1 c1) ∧ w'.cell? ⟨w1.heap.size, 2, none⟩ = some (.slice A2 m2 c2)) (go_keep) (first | (go_at_call 14; refine (PB.out _).mono ?_; rintro e' w' ⟨rfl, hb⟩; have hbW : Below W.heap.size W w' := (by first | exact hb | exact below_step (below_drew1 (Below.refl _ _)) hb); have kb2 := PK.out.2.1 w' hbW; have kr2 := PK.out.1 w' hbW; have kn2 := PK.out.2.2.1 w' hbW; have b20 := (blk_cell kb2 0).trans rfl; have b21 := (blk_cell kb2 1).trans rfl; have b22 := (blk_cell kb2 2).trans rfl; have b23 := (blk_cell kb2 3).trans rfl; have b24 := (blk_cell kb2 4).trans rfl; have b25 := (blk_cell kb2 5).trans rfl; have b26 := (blk_cell kb2 6).trans rfl; have x20 := (blk_cell kn2 0).trans rfl; have r20 := (blk_cell kr2 0).trans rfl; have y20 := blk_frozen kr2 0; have x21 := (blk_cell kn2 1).trans rfl; have r21 := (blk_cell kr2 1).trans rfl; have y21 := blk_frozen kr2 1; have x22 := (blk_cell kn2 2).trans rfl; have r22 := (blk_cell kr2 2).trans rfl; have y22 := blk_frozen kr2 2; have PW := Aside0.mk (And.intro hbW kr2); clear hb hbW kb2 kr2 kn2))
 go_wp2
 have kf := put3 PW.out.2 (.int .u8 T) (.slice A1 m1 c1) (.slice A2 m2 c2)
 refine bodyPost_ret (results_ct rfl _ _ (w.heap.size + 1) 45 #[.int .u8 T, .slice A1 m1 c1, .slice A2 m2 c2] (0, 0) _ rfl (by first | exact kf | exact blk_drew kf) Tryd.underlying45 rfl (by kernel_rfl)) rfl ?_
 have hk1 : ∀ k, (start3 w #[.int .i64 i, .slice Ab nb cb, .string r, .slice Al nl cl, .string sr, .slice As ns cs, .int .i64 e]).heap.size ≤ k → k ≠ w.heap.size + 1 := fun k hk => by rw [start3_size] at hk; omega
 have hk2 : ∀ k, (start3 w #[.int .i64 i, .slice Ab nb cb, .string r, .slice Al nl cl, .string sr, .slice As ns cs, .int .i64 e]).heap.size ≤ k → w.heap.size ≤ k := fun k hk => by rw [start3_size] at hk; omega
 have q1 := far3 (Kd.V_below PK.out.2.2.2.1 PW.out.1) hk1 (.int .u8 T) (.slice A1 m1 c1) (.slice A2 m2 c2)
 have q2 := far3 (Kd.V_below PK.out.2.2.2.2.1 PW.out.1) hk1 (.int .u8 T) (.slice A1 m1 c1) (.slice A2 m2 c2)
 have q3 := set3 (below_step PK.out.2.2.2.2.2 PW.out.1) (Nat.le_succ w.heap.size) (.int .u8 T) (.slice A1 m1 c1) (.slice A2 m2 c2)
 exact ⟨_, _, rfl, by first | exact Kd.V_mono q1 hk2 | exact Kd.V_drew (Kd.V_mono q1 hk2), by first | exact Kd.V_mono q2 hk2 | exact Kd.V_drew (Kd.V_mono q2 hk2), by first | exact q3 | exact below_drew1 q3⟩
set_option maxHeartbeats 8000000 in
set_option maxRecDepth 100000 in
theorem state_handle_no (T : Int) (body : List Int) (kids : List S45) (i : Int) (Ab : Option Addr) (cb : Nat) (b : List Int) (r : ByteArray) (Al : Option Addr) (cl : Nat) (l : List ByteArray) (sr : ByteArray) (As : Option Addr) (cs : Nat) (sl : List ByteArray) (e : Int) (w : World)
  (hN : ∀ W, Below w.heap.size w W → Calls Tryd.prog 13 #[.iface 52 (.int .i64 i)] W fun e' w' => ∃ v1 v2 : Value, e' = .returned (.tuple #[.agg #[.int .u8 T, v1, v2], .bool false]) ∧ Kd.V (Kd.int .u8) 5 w' W.heap.size (fun k => W.heap.size ≤ k) v1 body ∧ Kd.V k45 45 w' W.heap.size (fun k => W.heap.size ≤ k) v2 kids ∧ Below W.heap.size W w') :
  Calls Tryd.prog 9 #[anyV 4, .agg #[.int .i64 i, .slice Ab b.length cb, .string r, .slice Al l.length cl, .string sr, .slice As sl.length cs, .int .i64 e]] w fun e' w' => ∃ v1 v2 : Value, e' = .returned (.tuple #[.agg #[.int .u8 T, v1, v2], .bool false]) ∧ Kd.V (Kd.int .u8) 5 w' w.heap.size (fun k => w.heap.size ≤ k) v1 body ∧ Kd.V k45 45 w' w.heap.size (fun k => w.heap.size ≤ k) v2 kids ∧ Below w.heap.size w w' := by
 have PN := Aside0.mk hN
 have t0 := any_ta4_0
 have t1 := any_ta4_1
 have t2 := any_ta4_2
 have t4 := any_ta4_4
 generalize b.length = nb at PN ⊢
 generalize l.length = nl at PN ⊢
 generalize sl.length = ns at PN ⊢
 obtain ⟨X, hX⟩ : ∃ X, X = anyV 4 := ⟨_, rfl⟩
 rw [← hX] at t0 t1 t2 t4 ⊢
 clear hX hN
 go_enter Tryd.func9, Tryd.ntmps9
 go_wp2_with (go_at_call 13; refine (PN.out _ (start3_below w #[.int .i64 i, .slice Ab nb cb, .string r, .slice Al nl cl, .string sr, .slice As ns cs, .int .i64 e])).mono ?_; rintro e' w1 ⟨v1, v2, rfl, hV1, hV2, hb⟩; obtain ⟨A1, c1, rfl⟩ := Kd.V_slice hV1; obtain ⟨A2, c2, rfl⟩ := Kd.V_slice hV2; generalize hm1 : body.length = m1 at hV1 ⊢; generalize hm2 : kids.length = m2 at hV2 ⊢; have P1 := Aside0.mk (And.intro hV1 (And.intro hV2 hb)); clear hV1 hV2 hb hm1 hm2)
 obtain ⟨o, ho⟩ : ∃ o, Obj.cells #[.int .u8 T, .slice A1 m1 c1, .slice A2 m2 c2] 45 = o := ⟨_, rfl⟩
 have kb := blk_alloc (blk_below (start3_0 w #[.int .i64 i, .slice Ab nb cb, .string r, .slice Al nl cl, .string sr, .slice As ns cs, .int .i64 e]) P1.out.2.2) o
 have kr := blk_alloc (blk_below (start3_1 w #[.int .i64 i, .slice Ab nb cb, .string r, .slice Al nl cl, .string sr, .slice As ns cs, .int .i64 e]) P1.out.2.2) o
 have kn := blk_new w1 o
 have hlt : w.heap.size + 2 < w1.heap.size := blk_lt (blk_below (start3_2 w #[.int .i64 i, .slice Ab nb cb, .string r, .slice Al nl cl, .string sr, .slice As ns cs, .int .i64 e]) P1.out.2.2)
 have hV1 := Kd.V_alloc P1.out.1 o
 have hV2 := Kd.V_alloc P1.out.2.1 o
 have hB := below_alloc (below_step (start3_below w #[.int .i64 i, .slice Ab nb cb, .string r, .slice Al nl cl, .string sr, .slice As ns cs, .int .i64 e]) P1.out.2.2) o
 rw [ho]
 generalize w1.alloc o = W at kb kr kn hV1 hV2 hB ⊢
 rw [← ho] at kn
 clear ho
 have b0 : W.cell? ⟨w.heap.size, 0, none⟩ = some (.int .i64 i) := (blk_cell kb 0).trans rfl
 have b1 : W.cell? ⟨w.heap.size, 1, none⟩ = some (.slice Ab nb cb) := (blk_cell kb 1).trans rfl
 have b2 : W.cell? ⟨w.heap.size, 2, none⟩ = some (.string r) := (blk_cell kb 2).trans rfl
 have b3 : W.cell? ⟨w.heap.size, 3, none⟩ = some (.slice Al nl cl) := (blk_cell kb 3).trans rfl
 have b4 : W.cell? ⟨w.heap.size, 4, none⟩ = some (.string sr) := (blk_cell kb 4).trans rfl
 have b5 : W.cell? ⟨w.heap.size, 5, none⟩ = some (.slice As ns cs) := (blk_cell kb 5).trans rfl
 have b6 : W.cell? ⟨w.heap.size, 6, none⟩ = some (.int .i64 e) := (blk_cell kb 6).trans rfl
 have x0 : W.cell? ⟨w1.heap.size, 0, none⟩ = some (.int .u8 T) := (blk_cell kn 0).trans rfl
 have x1 : W.cell? ⟨w1.heap.size, 1, none⟩ = some (.slice A1 m1 c1) := (blk_cell kn 1).trans rfl
 have x2 : W.cell? ⟨w1.heap.size, 2, none⟩ = some (.slice A2 m2 c2) := (blk_cell kn 2).trans rfl
 have r0 := (blk_cell kr 0).trans rfl
 have y0 := blk_frozen kr 0
 have r1 := (blk_cell kr 1).trans rfl
 have y1 := blk_frozen kr 1
 have r2 := (blk_cell kr 2).trans rfl
 have y2 := blk_frozen kr 2
 have PK := Aside0.mk (And.intro (fun (w' : World) (hb : Below W.heap.size W w') => blk_below kr hb) (And.intro (fun (w' : World) (hb : Below W.heap.size W w') => blk_below kb hb) (And.intro (fun (w' : World) (hb : Below W.heap.size W w') => blk_below kn hb) (And.intro hV1 (And.intro hV2 hB)))))
 have PW0 := Aside0.mk (And.intro (Below.refl W.heap.size W) kr)
 have hne : w.heap.size + 1 ≠ w1.heap.size := by omega
 have hne2 := hne.symm
 have hne3 : w.heap.size ≠ w1.heap.size := by omega
 have hne4 := hne3.symm
 clear kb kr kn hV1 hV2 hB P1 hlt
 go_region
 go_wp2
 have kf := put3 PW0.out.2 (.int .u8 T) (.slice A1 m1 c1) (.slice A2 m2 c2)
 refine bodyPost_ret (results_ct rfl _ _ (w.heap.size + 1) 45 #[.int .u8 T, .slice A1 m1 c1, .slice A2 m2 c2] (0, 0) _ rfl (by first | exact kf | exact blk_drew kf) Tryd.underlying45 rfl (by kernel_rfl)) rfl ?_
 have hk1 : ∀ k, (start3 w #[.int .i64 i, .slice Ab nb cb, .string r, .slice Al nl cl, .string sr, .slice As ns cs, .int .i64 e]).heap.size ≤ k → k ≠ w.heap.size + 1 := fun k hk => by rw [start3_size] at hk; omega
 have hk2 : ∀ k, (start3 w #[.int .i64 i, .slice Ab nb cb, .string r, .slice Al nl cl, .string sr, .slice As ns cs, .int .i64 e]).heap.size ≤ k → w.heap.size ≤ k := fun k hk => by rw [start3_size] at hk; omega
 have q1 := far3 (Kd.V_below PK.out.2.2.2.1 PW0.out.1) hk1 (.int .u8 T) (.slice A1 m1 c1) (.slice A2 m2 c2)
 have q2 := far3 (Kd.V_below PK.out.2.2.2.2.1 PW0.out.1) hk1 (.int .u8 T) (.slice A1 m1 c1) (.slice A2 m2 c2)
 have q3 := set3 (below_step PK.out.2.2.2.2.2 PW0.out.1) (Nat.le_succ w.heap.size) (.int .u8 T) (.slice A1 m1 c1) (.slice A2 m2 c2)
 exact ⟨_, _, rfl, by first | exact Kd.V_mono q1 hk2 | exact Kd.V_drew (Kd.V_mono q1 hk2), by first | exact Kd.V_mono q2 hk2 | exact Kd.V_drew (Kd.V_mono q2 hk2), by first | exact q3 | exact below_drew1 q3⟩
set_option maxHeartbeats 8000000 in
set_option maxRecDepth 100000 in
theorem state_princ (T : Int) (body : List Int) (kids : List S45) (i : Int) (Ab : Option Addr) (cb : Nat) (b : List Int) (r : ByteArray) (Al : Option Addr) (cl : Nat) (l : List ByteArray) (sr : ByteArray) (As : Option Addr) (cs : Nat) (sl : List ByteArray) (e : Int) (w : World)
  (hN : ∀ W, Below w.heap.size w W → Calls Tryd.prog 15 #[.agg #[.string r, .slice Al l.length cl]] W fun e' w' => ∃ v1 v2 : Value, e' = .returned (.tuple #[.agg #[.int .u8 T, v1, v2], .int .i64 0]) ∧ Kd.V (Kd.int .u8) 5 w' W.heap.size (fun k => W.heap.size ≤ k) v1 body ∧ Kd.V k45 45 w' W.heap.size (fun k => W.heap.size ≤ k) v2 kids ∧ Below W.heap.size W w') :
  Calls Tryd.prog 9 #[anyV 5, .agg #[.int .i64 i, .slice Ab b.length cb, .string r, .slice Al l.length cl, .string sr, .slice As sl.length cs, .int .i64 e]] w fun e' w' => ∃ v1 v2 : Value, e' = .returned (.tuple #[.agg #[.int .u8 T, v1, v2], .bool (blankB i b r l sr sl e 112)]) ∧ Kd.V (Kd.int .u8) 5 w' w.heap.size (fun k => w.heap.size ≤ k) v1 body ∧ Kd.V k45 45 w' w.heap.size (fun k => w.heap.size ≤ k) v2 kids ∧ Below w.heap.size w w' := by
 have PN := Aside0.mk hN
 have PB := Aside0.mk (fun W => blank_112 i Ab cb b r Al cl l sr As cs sl e W)
 have t0 := any_ta5_0
 have t1 := any_ta5_1
 have t2 := any_ta5_2
 have t4 := any_ta5_4
 have t3 := any_ta5_3
 have t5 := any_ta5_5
 generalize blankB i b r l sr sl e 112 = P at PB ⊢
 generalize b.length = nb at PN PB ⊢
 generalize l.length = nl at PN PB ⊢
 generalize sl.length = ns at PN PB ⊢
 obtain ⟨X, hX⟩ : ∃ X, X = anyV 5 := ⟨_, rfl⟩
 rw [← hX] at t0 t1 t2 t4 t3 t5 ⊢
 clear hX hN
 go_enter Tryd.func9, Tryd.ntmps9
 go_wp2_with (go_at_call 15; refine (PN.out _ (start3_below w #[.int .i64 i, .slice Ab nb cb, .string r, .slice Al nl cl, .string sr, .slice As ns cs, .int .i64 e])).mono ?_; rintro e' w1 ⟨v1, v2, rfl, hV1, hV2, hb⟩; obtain ⟨A1, c1, rfl⟩ := Kd.V_slice hV1; obtain ⟨A2, c2, rfl⟩ := Kd.V_slice hV2; generalize hm1 : body.length = m1 at hV1 ⊢; generalize hm2 : kids.length = m2 at hV2 ⊢; have P1 := Aside0.mk (And.intro hV1 (And.intro hV2 hb)); have k2 := blk_below (start3_2 w #[.int .i64 i, .slice Ab nb cb, .string r, .slice Al nl cl, .string sr, .slice As ns cs, .int .i64 e]) hb; have z0 := (blk_cell k2 0).trans rfl; have z1 := (blk_cell k2 1).trans rfl; have z2 := (blk_cell k2 2).trans rfl; have u0 := blk_frozen k2 0; have u1 := blk_frozen k2 1; have u2 := blk_frozen k2 2; clear k2; clear hV1 hV2 hb hm1 hm2)
 have hlt : w.heap.size + 2 < w1.heap.size := blk_lt (blk_below (start3_2 w #[.int .i64 i, .slice Ab nb cb, .string r, .slice Al nl cl, .string sr, .slice As ns cs, .int .i64 e]) P1.out.2.2)
 have kb := off3 (blk_below (start3_0 w #[.int .i64 i, .slice Ab nb cb, .string r, .slice Al nl cl, .string sr, .slice As ns cs, .int .i64 e]) P1.out.2.2) (show w.heap.size ≠ w.heap.size + 2 by omega) (.int .u8 T) (.slice A1 m1 c1) (.slice A2 m2 c2)
 have kr := off3 (blk_below (start3_1 w #[.int .i64 i, .slice Ab nb cb, .string r, .slice Al nl cl, .string sr, .slice As ns cs, .int .i64 e]) P1.out.2.2) (show w.heap.size + 1 ≠ w.heap.size + 2 by omega) (.int .u8 T) (.slice A1 m1 c1) (.slice A2 m2 c2)
 have kn := put3 (blk_below (start3_2 w #[.int .i64 i, .slice Ab nb cb, .string r, .slice Al nl cl, .string sr, .slice As ns cs, .int .i64 e]) P1.out.2.2) (.int .u8 T) (.slice A1 m1 c1) (.slice A2 m2 c2)
 have hV1 := far3 P1.out.1 (g := w.heap.size + 2) (fun k hk => by rw [start3_size] at hk; omega) (.int .u8 T) (.slice A1 m1 c1) (.slice A2 m2 c2)
 have hV2 := far3 P1.out.2.1 (g := w.heap.size + 2) (fun k hk => by rw [start3_size] at hk; omega) (.int .u8 T) (.slice A1 m1 c1) (.slice A2 m2 c2)
 have hB := set3 (g := w.heap.size + 2) (below_step (start3_below w #[.int .i64 i, .slice Ab nb cb, .string r, .slice Al nl cl, .string sr, .slice As ns cs, .int .i64 e]) P1.out.2.2) (by omega) (.int .u8 T) (.slice A1 m1 c1) (.slice A2 m2 c2)
 clear z0 z1 z2 u0 u1 u2
 generalize ((w1.setCell ⟨w.heap.size + 2, 0, none⟩ (.int .u8 T)).setCell ⟨w.heap.size + 2, 1, none⟩ (.slice A1 m1 c1)).setCell ⟨w.heap.size + 2, 2, none⟩ (.slice A2 m2 c2) = W at kb kr kn hV1 hV2 hB ⊢
 have b0 : W.cell? ⟨w.heap.size, 0, none⟩ = some (.int .i64 i) := (blk_cell kb 0).trans rfl
 have b1 : W.cell? ⟨w.heap.size, 1, none⟩ = some (.slice Ab nb cb) := (blk_cell kb 1).trans rfl
 have b2 : W.cell? ⟨w.heap.size, 2, none⟩ = some (.string r) := (blk_cell kb 2).trans rfl
 have b3 : W.cell? ⟨w.heap.size, 3, none⟩ = some (.slice Al nl cl) := (blk_cell kb 3).trans rfl
 have b4 : W.cell? ⟨w.heap.size, 4, none⟩ = some (.string sr) := (blk_cell kb 4).trans rfl
 have b5 : W.cell? ⟨w.heap.size, 5, none⟩ = some (.slice As ns cs) := (blk_cell kb 5).trans rfl
 have b6 : W.cell? ⟨w.heap.size, 6, none⟩ = some (.int .i64 e) := (blk_cell kb 6).trans rfl
 have x0 : W.cell? ⟨w.heap.size + 2, 0, none⟩ = some (.int .u8 T) := (blk_cell kn 0).trans rfl
 have x1 : W.cell? ⟨w.heap.size + 2, 1, none⟩ = some (.slice A1 m1 c1) := (blk_cell kn 1).trans rfl
 have x2 : W.cell? ⟨w.heap.size + 2, 2, none⟩ = some (.slice A2 m2 c2) := (blk_cell kn 2).trans rfl
 have r0 := (blk_cell kr 0).trans rfl
 have y0 := blk_frozen kr 0
 have r1 := (blk_cell kr 1).trans rfl
 have y1 := blk_frozen kr 1
 have r2 := (blk_cell kr 2).trans rfl
 have y2 := blk_frozen kr 2
 have PK := Aside0.mk (And.intro (fun (w' : World) (hb : Below W.heap.size W w') => blk_below kr hb) (And.intro (fun (w' : World) (hb : Below W.heap.size W w') => blk_below kb hb) (And.intro (fun (w' : World) (hb : Below W.heap.size W w') => blk_below kn hb) (And.intro hV1 (And.intro hV2 hB)))))
 have PW0 := Aside0.mk (And.intro (Below.refl W.heap.size W) kr)
 clear kb kr kn hV1 hV2 hB P1 hlt
 go_region_held3 (fun w' => w'.cell? ⟨w.heap.size, 0, none⟩ = some (.int .i64 i) ∧ w'.cell? ⟨w.heap.size, 1, none⟩ = some (.slice Ab nb cb) ∧ w'.cell? ⟨w.heap.size, 2, none⟩ = some (.string r) ∧ w'.cell? ⟨w.heap.size, 3, none⟩ = some (.slice Al nl cl) ∧ w'.cell? ⟨w.heap.size, 4, none⟩ = some (.string sr) ∧ w'.cell? ⟨w.heap.size, 5, none⟩ = some (.slice As ns cs) ∧ w'.cell? ⟨w.heap.size, 6, none⟩ = some (.int .i64 e) ∧ w'.cell? ⟨w.heap.size + 2, 0, none⟩ = some (.int .u8 T) ∧ w'.cell? ⟨w.heap.size + 2, 1, none⟩ = some (.slice A1 m1 c1) ∧ w'.cell? ⟨w.heap.size + 2, 2, none⟩ = some (.slice A2 m2 c2)) (go_keep) (first | (go_at_call 14; refine (PB.out _).mono ?_; rintro e' w' ⟨rfl, hb⟩; have hbW : Below W.heap.size W w' := (by first | exact hb | exact below_step (below_drew1 (Below.refl _ _)) hb); have kb2 := PK.out.2.1 w' hbW; have kr2 := PK.out.1 w' hbW; have kn2 := PK.out.2.2.1 w' hbW; have b20 := (blk_cell kb2 0).trans rfl; have b21 := (blk_cell kb2 1).trans rfl; have b22 := (blk_cell kb2 2).trans rfl; have b23 := (blk_cell kb2 3).trans rfl; have b24 := (blk_cell kb2 4).trans rfl; have b25 := (blk_cell kb2 5).trans rfl; have b26 := (blk_cell kb2 6).trans rfl; have x20 := (blk_cell kn2 0).trans rfl; have r20 := (blk_cell kr2 0).trans rfl; have y20 := blk_frozen kr2 0; have x21 := (blk_cell kn2 1).trans rfl; have r21 := (blk_cell kr2 1).trans rfl; have y21 := blk_frozen kr2 1; have x22 := (blk_cell kn2 2).trans rfl; have r22 := (blk_cell kr2 2).trans rfl; have y22 := blk_frozen kr2 2; have PW := Aside0.mk (And.intro hbW kr2); clear hb hbW kb2 kr2 kn2))
 go_wp2
 have kf := put3 PW.out.2 (.int .u8 T) (.slice A1 m1 c1) (.slice A2 m2 c2)
 refine bodyPost_ret (results_ct rfl _ _ (w.heap.size + 1) 45 #[.int .u8 T, .slice A1 m1 c1, .slice A2 m2 c2] (0, 0) _ rfl (by first | exact kf | exact blk_drew kf) Tryd.underlying45 rfl (by kernel_rfl)) rfl ?_
 have hk1 : ∀ k, (start3 w #[.int .i64 i, .slice Ab nb cb, .string r, .slice Al nl cl, .string sr, .slice As ns cs, .int .i64 e]).heap.size ≤ k → k ≠ w.heap.size + 1 := fun k hk => by rw [start3_size] at hk; omega
 have hk2 : ∀ k, (start3 w #[.int .i64 i, .slice Ab nb cb, .string r, .slice Al nl cl, .string sr, .slice As ns cs, .int .i64 e]).heap.size ≤ k → w.heap.size ≤ k := fun k hk => by rw [start3_size] at hk; omega
 have q1 := far3 (Kd.V_below PK.out.2.2.2.1 PW.out.1) hk1 (.int .u8 T) (.slice A1 m1 c1) (.slice A2 m2 c2)
 have q2 := far3 (Kd.V_below PK.out.2.2.2.2.1 PW.out.1) hk1 (.int .u8 T) (.slice A1 m1 c1) (.slice A2 m2 c2)
 have q3 := set3 (below_step PK.out.2.2.2.2.2 PW.out.1) (Nat.le_succ w.heap.size) (.int .u8 T) (.slice A1 m1 c1) (.slice A2 m2 c2)
 exact ⟨_, _, rfl, by first | exact Kd.V_mono q1 hk2 | exact Kd.V_drew (Kd.V_mono q1 hk2), by first | exact Kd.V_mono q2 hk2 | exact Kd.V_drew (Kd.V_mono q2 hk2), by first | exact q3 | exact below_drew1 q3⟩
set_option maxHeartbeats 8000000 in
set_option maxRecDepth 100000 in
theorem state_princ_no (T : Int) (body : List Int) (kids : List S45) (E : Int) (hE : E ≠ 0) (i : Int) (Ab : Option Addr) (cb : Nat) (b : List Int) (r : ByteArray) (Al : Option Addr) (cl : Nat) (l : List ByteArray) (sr : ByteArray) (As : Option Addr) (cs : Nat) (sl : List ByteArray) (e : Int) (w : World)
  (hN : ∀ W, Below w.heap.size w W → Calls Tryd.prog 15 #[.agg #[.string r, .slice Al l.length cl]] W fun e' w' => ∃ v1 v2 : Value, e' = .returned (.tuple #[.agg #[.int .u8 T, v1, v2], .int .i64 E]) ∧ Kd.V (Kd.int .u8) 5 w' W.heap.size (fun k => W.heap.size ≤ k) v1 body ∧ Kd.V k45 45 w' W.heap.size (fun k => W.heap.size ≤ k) v2 kids ∧ Below W.heap.size W w') :
  Calls Tryd.prog 9 #[anyV 5, .agg #[.int .i64 i, .slice Ab b.length cb, .string r, .slice Al l.length cl, .string sr, .slice As sl.length cs, .int .i64 e]] w fun e' w' => ∃ v1 v2 : Value, e' = .returned (.tuple #[.agg #[.int .u8 T, v1, v2], .bool false]) ∧ Kd.V (Kd.int .u8) 5 w' w.heap.size (fun k => w.heap.size ≤ k) v1 body ∧ Kd.V k45 45 w' w.heap.size (fun k => w.heap.size ≤ k) v2 kids ∧ Below w.heap.size w w' := by
 have PN := Aside0.mk hN
 have t0 := any_ta5_0
 have t1 := any_ta5_1
 have t2 := any_ta5_2
 have t4 := any_ta5_4
 have t3 := any_ta5_3
 have t5 := any_ta5_5
 generalize b.length = nb at PN ⊢
 generalize l.length = nl at PN ⊢
 generalize sl.length = ns at PN ⊢
 obtain ⟨X, hX⟩ : ∃ X, X = anyV 5 := ⟨_, rfl⟩
 rw [← hX] at t0 t1 t2 t4 t3 t5 ⊢
 clear hX hN
 have hE0 : (E == 0) = false := beq_eq_false_iff_ne.mpr hE
 clear hE
 go_enter Tryd.func9, Tryd.ntmps9
 go_wp2_with (go_at_call 15; refine (PN.out _ (start3_below w #[.int .i64 i, .slice Ab nb cb, .string r, .slice Al nl cl, .string sr, .slice As ns cs, .int .i64 e])).mono ?_; rintro e' w1 ⟨v1, v2, rfl, hV1, hV2, hb⟩; obtain ⟨A1, c1, rfl⟩ := Kd.V_slice hV1; obtain ⟨A2, c2, rfl⟩ := Kd.V_slice hV2; generalize hm1 : body.length = m1 at hV1 ⊢; generalize hm2 : kids.length = m2 at hV2 ⊢; have P1 := Aside0.mk (And.intro hV1 (And.intro hV2 hb)); have k2 := blk_below (start3_2 w #[.int .i64 i, .slice Ab nb cb, .string r, .slice Al nl cl, .string sr, .slice As ns cs, .int .i64 e]) hb; have z0 := (blk_cell k2 0).trans rfl; have z1 := (blk_cell k2 1).trans rfl; have z2 := (blk_cell k2 2).trans rfl; have u0 := blk_frozen k2 0; have u1 := blk_frozen k2 1; have u2 := blk_frozen k2 2; clear k2; clear hV1 hV2 hb hm1 hm2)
 have hlt : w.heap.size + 2 < w1.heap.size := blk_lt (blk_below (start3_2 w #[.int .i64 i, .slice Ab nb cb, .string r, .slice Al nl cl, .string sr, .slice As ns cs, .int .i64 e]) P1.out.2.2)
 have kb := off3 (blk_below (start3_0 w #[.int .i64 i, .slice Ab nb cb, .string r, .slice Al nl cl, .string sr, .slice As ns cs, .int .i64 e]) P1.out.2.2) (show w.heap.size ≠ w.heap.size + 2 by omega) (.int .u8 T) (.slice A1 m1 c1) (.slice A2 m2 c2)
 have kr := off3 (blk_below (start3_1 w #[.int .i64 i, .slice Ab nb cb, .string r, .slice Al nl cl, .string sr, .slice As ns cs, .int .i64 e]) P1.out.2.2) (show w.heap.size + 1 ≠ w.heap.size + 2 by omega) (.int .u8 T) (.slice A1 m1 c1) (.slice A2 m2 c2)
 have kn := put3 (blk_below (start3_2 w #[.int .i64 i, .slice Ab nb cb, .string r, .slice Al nl cl, .string sr, .slice As ns cs, .int .i64 e]) P1.out.2.2) (.int .u8 T) (.slice A1 m1 c1) (.slice A2 m2 c2)
 have hV1 := far3 P1.out.1 (g := w.heap.size + 2) (fun k hk => by rw [start3_size] at hk; omega) (.int .u8 T) (.slice A1 m1 c1) (.slice A2 m2 c2)
 have hV2 := far3 P1.out.2.1 (g := w.heap.size + 2) (fun k hk => by rw [start3_size] at hk; omega) (.int .u8 T) (.slice A1 m1 c1) (.slice A2 m2 c2)
 have hB := set3 (g := w.heap.size + 2) (below_step (start3_below w #[.int .i64 i, .slice Ab nb cb, .string r, .slice Al nl cl, .string sr, .slice As ns cs, .int .i64 e]) P1.out.2.2) (by omega) (.int .u8 T) (.slice A1 m1 c1) (.slice A2 m2 c2)
 clear z0 z1 z2 u0 u1 u2
 generalize ((w1.setCell ⟨w.heap.size + 2, 0, none⟩ (.int .u8 T)).setCell ⟨w.heap.size + 2, 1, none⟩ (.slice A1 m1 c1)).setCell ⟨w.heap.size + 2, 2, none⟩ (.slice A2 m2 c2) = W at kb kr kn hV1 hV2 hB ⊢
 have b0 : W.cell? ⟨w.heap.size, 0, none⟩ = some (.int .i64 i) := (blk_cell kb 0).trans rfl
 have b1 : W.cell? ⟨w.heap.size, 1, none⟩ = some (.slice Ab nb cb) := (blk_cell kb 1).trans rfl
 have b2 : W.cell? ⟨w.heap.size, 2, none⟩ = some (.string r) := (blk_cell kb 2).trans rfl
 have b3 : W.cell? ⟨w.heap.size, 3, none⟩ = some (.slice Al nl cl) := (blk_cell kb 3).trans rfl
 have b4 : W.cell? ⟨w.heap.size, 4, none⟩ = some (.string sr) := (blk_cell kb 4).trans rfl
 have b5 : W.cell? ⟨w.heap.size, 5, none⟩ = some (.slice As ns cs) := (blk_cell kb 5).trans rfl
 have b6 : W.cell? ⟨w.heap.size, 6, none⟩ = some (.int .i64 e) := (blk_cell kb 6).trans rfl
 have x0 : W.cell? ⟨w.heap.size + 2, 0, none⟩ = some (.int .u8 T) := (blk_cell kn 0).trans rfl
 have x1 : W.cell? ⟨w.heap.size + 2, 1, none⟩ = some (.slice A1 m1 c1) := (blk_cell kn 1).trans rfl
 have x2 : W.cell? ⟨w.heap.size + 2, 2, none⟩ = some (.slice A2 m2 c2) := (blk_cell kn 2).trans rfl
 have r0 := (blk_cell kr 0).trans rfl
 have y0 := blk_frozen kr 0
 have r1 := (blk_cell kr 1).trans rfl
 have y1 := blk_frozen kr 1
 have r2 := (blk_cell kr 2).trans rfl
 have y2 := blk_frozen kr 2
 have PK := Aside0.mk (And.intro (fun (w' : World) (hb : Below W.heap.size W w') => blk_below kr hb) (And.intro (fun (w' : World) (hb : Below W.heap.size W w') => blk_below kb hb) (And.intro (fun (w' : World) (hb : Below W.heap.size W w') => blk_below kn hb) (And.intro hV1 (And.intro hV2 hB)))))
 have PW0 := Aside0.mk (And.intro (Below.refl W.heap.size W) kr)
 clear kb kr kn hV1 hV2 hB P1 hlt
 go_region
 go_wp2
 have kf := put3 PW0.out.2 (.int .u8 T) (.slice A1 m1 c1) (.slice A2 m2 c2)
 refine bodyPost_ret (results_ct rfl _ _ (w.heap.size + 1) 45 #[.int .u8 T, .slice A1 m1 c1, .slice A2 m2 c2] (0, 0) _ rfl (by first | exact kf | exact blk_drew kf) Tryd.underlying45 rfl (by kernel_rfl)) rfl ?_
 have hk1 : ∀ k, (start3 w #[.int .i64 i, .slice Ab nb cb, .string r, .slice Al nl cl, .string sr, .slice As ns cs, .int .i64 e]).heap.size ≤ k → k ≠ w.heap.size + 1 := fun k hk => by rw [start3_size] at hk; omega
 have hk2 : ∀ k, (start3 w #[.int .i64 i, .slice Ab nb cb, .string r, .slice Al nl cl, .string sr, .slice As ns cs, .int .i64 e]).heap.size ≤ k → w.heap.size ≤ k := fun k hk => by rw [start3_size] at hk; omega
 have q1 := far3 (Kd.V_below PK.out.2.2.2.1 PW0.out.1) hk1 (.int .u8 T) (.slice A1 m1 c1) (.slice A2 m2 c2)
 have q2 := far3 (Kd.V_below PK.out.2.2.2.2.1 PW0.out.1) hk1 (.int .u8 T) (.slice A1 m1 c1) (.slice A2 m2 c2)
 have q3 := set3 (below_step PK.out.2.2.2.2.2 PW0.out.1) (Nat.le_succ w.heap.size) (.int .u8 T) (.slice A1 m1 c1) (.slice A2 m2 c2)
 exact ⟨_, _, rfl, by first | exact Kd.V_mono q1 hk2 | exact Kd.V_drew (Kd.V_mono q1 hk2), by first | exact Kd.V_mono q2 hk2 | exact Kd.V_drew (Kd.V_mono q2 hk2), by first | exact q3 | exact below_drew1 q3⟩
set_option maxHeartbeats 8000000 in
set_option maxRecDepth 100000 in
theorem state_ticket (T : Int) (body : List Int) (kids : List S45) (i : Int) (Ab : Option Addr) (cb : Nat) (b : List Int) (r : ByteArray) (Al : Option Addr) (cl : Nat) (l : List ByteArray) (sr : ByteArray) (As : Option Addr) (cs : Nat) (sl : List ByteArray) (e : Int) (w : World)
  (hN : ∀ W, Below w.heap.size w W → Calls Tryd.prog 16 #[.agg #[.string sr, .slice As sl.length cs, .int .i64 e]] W fun e' w' => ∃ v1 v2 : Value, e' = .returned (.tuple #[.agg #[.int .u8 T, v1, v2], .int .i64 0]) ∧ Kd.V (Kd.int .u8) 5 w' W.heap.size (fun k => W.heap.size ≤ k) v1 body ∧ Kd.V k45 45 w' W.heap.size (fun k => W.heap.size ≤ k) v2 kids ∧ Below W.heap.size W w') :
  Calls Tryd.prog 9 #[anyV 6, .agg #[.int .i64 i, .slice Ab b.length cb, .string r, .slice Al l.length cl, .string sr, .slice As sl.length cs, .int .i64 e]] w fun e' w' => ∃ v1 v2 : Value, e' = .returned (.tuple #[.agg #[.int .u8 T, v1, v2], .bool (blankB i b r l sr sl e 107)]) ∧ Kd.V (Kd.int .u8) 5 w' w.heap.size (fun k => w.heap.size ≤ k) v1 body ∧ Kd.V k45 45 w' w.heap.size (fun k => w.heap.size ≤ k) v2 kids ∧ Below w.heap.size w w' := by
 have PN := Aside0.mk hN
 have PB := Aside0.mk (fun W => blank_107 i Ab cb b r Al cl l sr As cs sl e W)
 have t0 := any_ta6_0
 have t1 := any_ta6_1
 have t2 := any_ta6_2
 have t4 := any_ta6_4
 have t3 := any_ta6_3
 have t5 := any_ta6_5
 generalize blankB i b r l sr sl e 107 = P at PB ⊢
 generalize b.length = nb at PN PB ⊢
 generalize l.length = nl at PN PB ⊢
 generalize sl.length = ns at PN PB ⊢
 obtain ⟨X, hX⟩ : ∃ X, X = anyV 6 := ⟨_, rfl⟩
 rw [← hX] at t0 t1 t2 t4 t3 t5 ⊢
 clear hX hN
 go_enter Tryd.func9, Tryd.ntmps9
 go_wp2_with (go_at_call 16; refine (PN.out _ (start3_below w #[.int .i64 i, .slice Ab nb cb, .string r, .slice Al nl cl, .string sr, .slice As ns cs, .int .i64 e])).mono ?_; rintro e' w1 ⟨v1, v2, rfl, hV1, hV2, hb⟩; obtain ⟨A1, c1, rfl⟩ := Kd.V_slice hV1; obtain ⟨A2, c2, rfl⟩ := Kd.V_slice hV2; generalize hm1 : body.length = m1 at hV1 ⊢; generalize hm2 : kids.length = m2 at hV2 ⊢; have P1 := Aside0.mk (And.intro hV1 (And.intro hV2 hb)); have k2 := blk_below (start3_2 w #[.int .i64 i, .slice Ab nb cb, .string r, .slice Al nl cl, .string sr, .slice As ns cs, .int .i64 e]) hb; have z0 := (blk_cell k2 0).trans rfl; have z1 := (blk_cell k2 1).trans rfl; have z2 := (blk_cell k2 2).trans rfl; have u0 := blk_frozen k2 0; have u1 := blk_frozen k2 1; have u2 := blk_frozen k2 2; clear k2; clear hV1 hV2 hb hm1 hm2)
 have hlt : w.heap.size + 2 < w1.heap.size := blk_lt (blk_below (start3_2 w #[.int .i64 i, .slice Ab nb cb, .string r, .slice Al nl cl, .string sr, .slice As ns cs, .int .i64 e]) P1.out.2.2)
 have kb := off3 (blk_below (start3_0 w #[.int .i64 i, .slice Ab nb cb, .string r, .slice Al nl cl, .string sr, .slice As ns cs, .int .i64 e]) P1.out.2.2) (show w.heap.size ≠ w.heap.size + 2 by omega) (.int .u8 T) (.slice A1 m1 c1) (.slice A2 m2 c2)
 have kr := off3 (blk_below (start3_1 w #[.int .i64 i, .slice Ab nb cb, .string r, .slice Al nl cl, .string sr, .slice As ns cs, .int .i64 e]) P1.out.2.2) (show w.heap.size + 1 ≠ w.heap.size + 2 by omega) (.int .u8 T) (.slice A1 m1 c1) (.slice A2 m2 c2)
 have kn := put3 (blk_below (start3_2 w #[.int .i64 i, .slice Ab nb cb, .string r, .slice Al nl cl, .string sr, .slice As ns cs, .int .i64 e]) P1.out.2.2) (.int .u8 T) (.slice A1 m1 c1) (.slice A2 m2 c2)
 have hV1 := far3 P1.out.1 (g := w.heap.size + 2) (fun k hk => by rw [start3_size] at hk; omega) (.int .u8 T) (.slice A1 m1 c1) (.slice A2 m2 c2)
 have hV2 := far3 P1.out.2.1 (g := w.heap.size + 2) (fun k hk => by rw [start3_size] at hk; omega) (.int .u8 T) (.slice A1 m1 c1) (.slice A2 m2 c2)
 have hB := set3 (g := w.heap.size + 2) (below_step (start3_below w #[.int .i64 i, .slice Ab nb cb, .string r, .slice Al nl cl, .string sr, .slice As ns cs, .int .i64 e]) P1.out.2.2) (by omega) (.int .u8 T) (.slice A1 m1 c1) (.slice A2 m2 c2)
 clear z0 z1 z2 u0 u1 u2
 generalize ((w1.setCell ⟨w.heap.size + 2, 0, none⟩ (.int .u8 T)).setCell ⟨w.heap.size + 2, 1, none⟩ (.slice A1 m1 c1)).setCell ⟨w.heap.size + 2, 2, none⟩ (.slice A2 m2 c2) = W at kb kr kn hV1 hV2 hB ⊢
 have b0 : W.cell? ⟨w.heap.size, 0, none⟩ = some (.int .i64 i) := (blk_cell kb 0).trans rfl
 have b1 : W.cell? ⟨w.heap.size, 1, none⟩ = some (.slice Ab nb cb) := (blk_cell kb 1).trans rfl
 have b2 : W.cell? ⟨w.heap.size, 2, none⟩ = some (.string r) := (blk_cell kb 2).trans rfl
 have b3 : W.cell? ⟨w.heap.size, 3, none⟩ = some (.slice Al nl cl) := (blk_cell kb 3).trans rfl
 have b4 : W.cell? ⟨w.heap.size, 4, none⟩ = some (.string sr) := (blk_cell kb 4).trans rfl
 have b5 : W.cell? ⟨w.heap.size, 5, none⟩ = some (.slice As ns cs) := (blk_cell kb 5).trans rfl
 have b6 : W.cell? ⟨w.heap.size, 6, none⟩ = some (.int .i64 e) := (blk_cell kb 6).trans rfl
 have x0 : W.cell? ⟨w.heap.size + 2, 0, none⟩ = some (.int .u8 T) := (blk_cell kn 0).trans rfl
 have x1 : W.cell? ⟨w.heap.size + 2, 1, none⟩ = some (.slice A1 m1 c1) := (blk_cell kn 1).trans rfl
 have x2 : W.cell? ⟨w.heap.size + 2, 2, none⟩ = some (.slice A2 m2 c2) := (blk_cell kn 2).trans rfl
 have r0 := (blk_cell kr 0).trans rfl
 have y0 := blk_frozen kr 0
 have r1 := (blk_cell kr 1).trans rfl
 have y1 := blk_frozen kr 1
 have r2 := (blk_cell kr 2).trans rfl
 have y2 := blk_frozen kr 2
 have PK := Aside0.mk (And.intro (fun (w' : World) (hb : Below W.heap.size W w') => blk_below kr hb) (And.intro (fun (w' : World) (hb : Below W.heap.size W w') => blk_below kb hb) (And.intro (fun (w' : World) (hb : Below W.heap.size W w') => blk_below kn hb) (And.intro hV1 (And.intro hV2 hB)))))
 have PW0 := Aside0.mk (And.intro (Below.refl W.heap.size W) kr)
 clear kb kr kn hV1 hV2 hB P1 hlt
 go_region_held3 (fun w' => w'.cell? ⟨w.heap.size, 0, none⟩ = some (.int .i64 i) ∧ w'.cell? ⟨w.heap.size, 1, none⟩ = some (.slice Ab nb cb) ∧ w'.cell? ⟨w.heap.size, 2, none⟩ = some (.string r) ∧ w'.cell? ⟨w.heap.size, 3, none⟩ = some (.slice Al nl cl) ∧ w'.cell? ⟨w.heap.size, 4, none⟩ = some (.string sr) ∧ w'.cell? ⟨w.heap.size, 5, none⟩ = some (.slice As ns cs) ∧ w'.cell? ⟨w.heap.size, 6, none⟩ = some (.int .i64 e) ∧ w'.cell? ⟨w.heap.size + 2, 0, none⟩ = some (.int .u8 T) ∧ w'.cell? ⟨w.heap.size + 2, 1, none⟩ = some (.slice A1 m1 c1) ∧ w'.cell? ⟨w.heap.size + 2, 2, none⟩ = some (.slice A2 m2 c2)) (go_keep) (first | (go_at_call 14; refine (PB.out _).mono ?_; rintro e' w' ⟨rfl, hb⟩; have hbW : Below W.heap.size W w' := (by first | exact hb | exact below_step (below_drew1 (Below.refl _ _)) hb); have kb2 := PK.out.2.1 w' hbW; have kr2 := PK.out.1 w' hbW; have kn2 := PK.out.2.2.1 w' hbW; have b20 := (blk_cell kb2 0).trans rfl; have b21 := (blk_cell kb2 1).trans rfl; have b22 := (blk_cell kb2 2).trans rfl; have b23 := (blk_cell kb2 3).trans rfl; have b24 := (blk_cell kb2 4).trans rfl; have b25 := (blk_cell kb2 5).trans rfl; have b26 := (blk_cell kb2 6).trans rfl; have x20 := (blk_cell kn2 0).trans rfl; have r20 := (blk_cell kr2 0).trans rfl; have y20 := blk_frozen kr2 0; have x21 := (blk_cell kn2 1).trans rfl; have r21 := (blk_cell kr2 1).trans rfl; have y21 := blk_frozen kr2 1; have x22 := (blk_cell kn2 2).trans rfl; have r22 := (blk_cell kr2 2).trans rfl; have y22 := blk_frozen kr2 2; have PW := Aside0.mk (And.intro hbW kr2); clear hb hbW kb2 kr2 kn2))
 go_wp2
 have kf := put3 PW.out.2 (.int .u8 T) (.slice A1 m1 c1) (.slice A2 m2 c2)
 refine bodyPost_ret (results_ct rfl _ _ (w.heap.size + 1) 45 #[.int .u8 T, .slice A1 m1 c1, .slice A2 m2 c2] (0, 0) _ rfl (by first | exact kf | exact blk_drew kf) Tryd.underlying45 rfl (by kernel_rfl)) rfl ?_
 have hk1 : ∀ k, (start3 w #[.int .i64 i, .slice Ab nb cb, .string r, .slice Al nl cl, .string sr, .slice As ns cs, .int .i64 e]).heap.size ≤ k → k ≠ w.heap.size + 1 := fun k hk => by rw [start3_size] at hk; omega
 have hk2 : ∀ k, (start3 w #[.int .i64 i, .slice Ab nb cb, .string r, .slice Al nl cl, .string sr, .slice As ns cs, .int .i64 e]).heap.size ≤ k → w.heap.size ≤ k := fun k hk => by rw [start3_size] at hk; omega
 have q1 := far3 (Kd.V_below PK.out.2.2.2.1 PW.out.1) hk1 (.int .u8 T) (.slice A1 m1 c1) (.slice A2 m2 c2)
 have q2 := far3 (Kd.V_below PK.out.2.2.2.2.1 PW.out.1) hk1 (.int .u8 T) (.slice A1 m1 c1) (.slice A2 m2 c2)
 have q3 := set3 (below_step PK.out.2.2.2.2.2 PW.out.1) (Nat.le_succ w.heap.size) (.int .u8 T) (.slice A1 m1 c1) (.slice A2 m2 c2)
 exact ⟨_, _, rfl, by first | exact Kd.V_mono q1 hk2 | exact Kd.V_drew (Kd.V_mono q1 hk2), by first | exact Kd.V_mono q2 hk2 | exact Kd.V_drew (Kd.V_mono q2 hk2), by first | exact q3 | exact below_drew1 q3⟩
set_option maxHeartbeats 8000000 in
set_option maxRecDepth 100000 in
theorem state_ticket_no (T : Int) (body : List Int) (kids : List S45) (E : Int) (hE : E ≠ 0) (i : Int) (Ab : Option Addr) (cb : Nat) (b : List Int) (r : ByteArray) (Al : Option Addr) (cl : Nat) (l : List ByteArray) (sr : ByteArray) (As : Option Addr) (cs : Nat) (sl : List ByteArray) (e : Int) (w : World)
  (hN : ∀ W, Below w.heap.size w W → Calls Tryd.prog 16 #[.agg #[.string sr, .slice As sl.length cs, .int .i64 e]] W fun e' w' => ∃ v1 v2 : Value, e' = .returned (.tuple #[.agg #[.int .u8 T, v1, v2], .int .i64 E]) ∧ Kd.V (Kd.int .u8) 5 w' W.heap.size (fun k => W.heap.size ≤ k) v1 body ∧ Kd.V k45 45 w' W.heap.size (fun k => W.heap.size ≤ k) v2 kids ∧ Below W.heap.size W w') :
  Calls Tryd.prog 9 #[anyV 6, .agg #[.int .i64 i, .slice Ab b.length cb, .string r, .slice Al l.length cl, .string sr, .slice As sl.length cs, .int .i64 e]] w fun e' w' => ∃ v1 v2 : Value, e' = .returned (.tuple #[.agg #[.int .u8 T, v1, v2], .bool false]) ∧ Kd.V (Kd.int .u8) 5 w' w.heap.size (fun k => w.heap.size ≤ k) v1 body ∧ Kd.V k45 45 w' w.heap.size (fun k => w.heap.size ≤ k) v2 kids ∧ Below w.heap.size w w' := by
 have PN := Aside0.mk hN
 have t0 := any_ta6_0
 have t1 := any_ta6_1
 have t2 := any_ta6_2
 have t4 := any_ta6_4
 have t3 := any_ta6_3
 have t5 := any_ta6_5
 generalize b.length = nb at PN ⊢
 generalize l.length = nl at PN ⊢
 generalize sl.length = ns at PN ⊢
 obtain ⟨X, hX⟩ : ∃ X, X = anyV 6 := ⟨_, rfl⟩
 rw [← hX] at t0 t1 t2 t4 t3 t5 ⊢
 clear hX hN
 have hE0 : (E == 0) = false := beq_eq_false_iff_ne.mpr hE
 clear hE
 go_enter Tryd.func9, Tryd.ntmps9
 go_wp2_with (go_at_call 16; refine (PN.out _ (start3_below w #[.int .i64 i, .slice Ab nb cb, .string r, .slice Al nl cl, .string sr, .slice As ns cs, .int .i64 e])).mono ?_; rintro e' w1 ⟨v1, v2, rfl, hV1, hV2, hb⟩; obtain ⟨A1, c1, rfl⟩ := Kd.V_slice hV1; obtain ⟨A2, c2, rfl⟩ := Kd.V_slice hV2; generalize hm1 : body.length = m1 at hV1 ⊢; generalize hm2 : kids.length = m2 at hV2 ⊢; have P1 := Aside0.mk (And.intro hV1 (And.intro hV2 hb)); have k2 := blk_below (start3_2 w #[.int .i64 i, .slice Ab nb cb, .string r, .slice Al nl cl, .string sr, .slice As ns cs, .int .i64 e]) hb; have z0 := (blk_cell k2 0).trans rfl; have z1 := (blk_cell k2 1).trans rfl; have z2 := (blk_cell k2 2).trans rfl; have u0 := blk_frozen k2 0; have u1 := blk_frozen k2 1; have u2 := blk_frozen k2 2; clear k2; clear hV1 hV2 hb hm1 hm2)
 have hlt : w.heap.size + 2 < w1.heap.size := blk_lt (blk_below (start3_2 w #[.int .i64 i, .slice Ab nb cb, .string r, .slice Al nl cl, .string sr, .slice As ns cs, .int .i64 e]) P1.out.2.2)
 have kb := off3 (blk_below (start3_0 w #[.int .i64 i, .slice Ab nb cb, .string r, .slice Al nl cl, .string sr, .slice As ns cs, .int .i64 e]) P1.out.2.2) (show w.heap.size ≠ w.heap.size + 2 by omega) (.int .u8 T) (.slice A1 m1 c1) (.slice A2 m2 c2)
 have kr := off3 (blk_below (start3_1 w #[.int .i64 i, .slice Ab nb cb, .string r, .slice Al nl cl, .string sr, .slice As ns cs, .int .i64 e]) P1.out.2.2) (show w.heap.size + 1 ≠ w.heap.size + 2 by omega) (.int .u8 T) (.slice A1 m1 c1) (.slice A2 m2 c2)
 have kn := put3 (blk_below (start3_2 w #[.int .i64 i, .slice Ab nb cb, .string r, .slice Al nl cl, .string sr, .slice As ns cs, .int .i64 e]) P1.out.2.2) (.int .u8 T) (.slice A1 m1 c1) (.slice A2 m2 c2)
 have hV1 := far3 P1.out.1 (g := w.heap.size + 2) (fun k hk => by rw [start3_size] at hk; omega) (.int .u8 T) (.slice A1 m1 c1) (.slice A2 m2 c2)
 have hV2 := far3 P1.out.2.1 (g := w.heap.size + 2) (fun k hk => by rw [start3_size] at hk; omega) (.int .u8 T) (.slice A1 m1 c1) (.slice A2 m2 c2)
 have hB := set3 (g := w.heap.size + 2) (below_step (start3_below w #[.int .i64 i, .slice Ab nb cb, .string r, .slice Al nl cl, .string sr, .slice As ns cs, .int .i64 e]) P1.out.2.2) (by omega) (.int .u8 T) (.slice A1 m1 c1) (.slice A2 m2 c2)
 clear z0 z1 z2 u0 u1 u2
 generalize ((w1.setCell ⟨w.heap.size + 2, 0, none⟩ (.int .u8 T)).setCell ⟨w.heap.size + 2, 1, none⟩ (.slice A1 m1 c1)).setCell ⟨w.heap.size + 2, 2, none⟩ (.slice A2 m2 c2) = W at kb kr kn hV1 hV2 hB ⊢
 have b0 : W.cell? ⟨w.heap.size, 0, none⟩ = some (.int .i64 i) := (blk_cell kb 0).trans rfl
 have b1 : W.cell? ⟨w.heap.size, 1, none⟩ = some (.slice Ab nb cb) := (blk_cell kb 1).trans rfl
 have b2 : W.cell? ⟨w.heap.size, 2, none⟩ = some (.string r) := (blk_cell kb 2).trans rfl
 have b3 : W.cell? ⟨w.heap.size, 3, none⟩ = some (.slice Al nl cl) := (blk_cell kb 3).trans rfl
 have b4 : W.cell? ⟨w.heap.size, 4, none⟩ = some (.string sr) := (blk_cell kb 4).trans rfl
 have b5 : W.cell? ⟨w.heap.size, 5, none⟩ = some (.slice As ns cs) := (blk_cell kb 5).trans rfl
 have b6 : W.cell? ⟨w.heap.size, 6, none⟩ = some (.int .i64 e) := (blk_cell kb 6).trans rfl
 have x0 : W.cell? ⟨w.heap.size + 2, 0, none⟩ = some (.int .u8 T) := (blk_cell kn 0).trans rfl
 have x1 : W.cell? ⟨w.heap.size + 2, 1, none⟩ = some (.slice A1 m1 c1) := (blk_cell kn 1).trans rfl
 have x2 : W.cell? ⟨w.heap.size + 2, 2, none⟩ = some (.slice A2 m2 c2) := (blk_cell kn 2).trans rfl
 have r0 := (blk_cell kr 0).trans rfl
 have y0 := blk_frozen kr 0
 have r1 := (blk_cell kr 1).trans rfl
 have y1 := blk_frozen kr 1
 have r2 := (blk_cell kr 2).trans rfl
 have y2 := blk_frozen kr 2
 have PK := Aside0.mk (And.intro (fun (w' : World) (hb : Below W.heap.size W w') => blk_below kr hb) (And.intro (fun (w' : World) (hb : Below W.heap.size W w') => blk_below kb hb) (And.intro (fun (w' : World) (hb : Below W.heap.size W w') => blk_below kn hb) (And.intro hV1 (And.intro hV2 hB)))))
 have PW0 := Aside0.mk (And.intro (Below.refl W.heap.size W) kr)
 clear kb kr kn hV1 hV2 hB P1 hlt
 go_region
 go_wp2
 have kf := put3 PW0.out.2 (.int .u8 T) (.slice A1 m1 c1) (.slice A2 m2 c2)
 refine bodyPost_ret (results_ct rfl _ _ (w.heap.size + 1) 45 #[.int .u8 T, .slice A1 m1 c1, .slice A2 m2 c2] (0, 0) _ rfl (by first | exact kf | exact blk_drew kf) Tryd.underlying45 rfl (by kernel_rfl)) rfl ?_
 have hk1 : ∀ k, (start3 w #[.int .i64 i, .slice Ab nb cb, .string r, .slice Al nl cl, .string sr, .slice As ns cs, .int .i64 e]).heap.size ≤ k → k ≠ w.heap.size + 1 := fun k hk => by rw [start3_size] at hk; omega
 have hk2 : ∀ k, (start3 w #[.int .i64 i, .slice Ab nb cb, .string r, .slice Al nl cl, .string sr, .slice As ns cs, .int .i64 e]).heap.size ≤ k → w.heap.size ≤ k := fun k hk => by rw [start3_size] at hk; omega
 have q1 := far3 (Kd.V_below PK.out.2.2.2.1 PW0.out.1) hk1 (.int .u8 T) (.slice A1 m1 c1) (.slice A2 m2 c2)
 have q2 := far3 (Kd.V_below PK.out.2.2.2.2.1 PW0.out.1) hk1 (.int .u8 T) (.slice A1 m1 c1) (.slice A2 m2 c2)
 have q3 := set3 (below_step PK.out.2.2.2.2.2 PW0.out.1) (Nat.le_succ w.heap.size) (.int .u8 T) (.slice A1 m1 c1) (.slice A2 m2 c2)
 exact ⟨_, _, rfl, by first | exact Kd.V_mono q1 hk2 | exact Kd.V_drew (Kd.V_mono q1 hk2), by first | exact Kd.V_mono q2 hk2 | exact Kd.V_drew (Kd.V_mono q2 hk2), by first | exact q3 | exact below_drew1 q3⟩
end Go.Proofs.YtncanijjnhkgbaaDoor.PMsgsUnlike
