/- A part of the proof of the law MsgsPut, put together by a program of this seat's prover (wip/pack.py): its own texts, what a changed copy of the kit's printer (wip/mkprint.py) printed. No condition. -/
import Derived.Test.YtncanijjnhkgbaaGreatDoorA2
import Derived.Test.YtncanijjnhkgbaaGreatDoorA3
import Derived.Test.YtncanijjnhkgbaaGreatDoorA5
import Derived.Test.YtncanijjnhkgbaaGreatDoorA4
set_option linter.unusedVariables false
set_option linter.unusedSimpArgs false
namespace Go.Proofs.YtncanijjnhkgbaaGreatDoor.PMsgsPut
open Go.RowKit Go.Proofs.YtncanijjnhkgbaaGreatDoorW.PrintWords Go.Proofs.YtncanijjnhkgbaaGreatDoorW.PrintLast Go.Proofs.YtncanijjnhkgbaaGreatDoorW.PrintMore
attribute [local go_sem] max2_int min2_int max_two min_two max_three min_three max_four min_four
set_option linter.unusedVariables false
set_option linter.unusedSimpArgs false
mutual
noncomputable def warderref03_Time.j3 : Nat → Int → List Int → Option (Int × Int)
 | 0, _, _ => none
 | k + 1, x6, x7 => (warderref03_number.f x7 0).bind fun t667 => ((warderref03_number.f x7 2).bind fun t668 => ((warderref03_number.f x7 4).bind fun t669 => ((warderref03_number.f x7 6).bind fun t670 => ((warderref03_number.f x7 8).bind fun t671 => (if 10 < (x7.length : Int) then (if (rd x7 10) = 90 then (if t667 < 1 then (warderref03_Time.j4 k x6 t667 t668 t669 t670 t671 true) else (if t667 > 12 then (warderref03_Time.j4 k x6 t667 t668 t669 t670 t671 true) else (if t668 < 1 then (warderref03_Time.j4 k x6 t667 t668 t669 t670 t671 true) else (if t669 < 0 then (warderref03_Time.j4 k x6 t667 t668 t669 t670 t671 true) else (if t669 > 23 then (warderref03_Time.j4 k x6 t667 t668 t669 t670 t671 true) else (if t670 < 0 then (warderref03_Time.j4 k x6 t667 t668 t669 t670 t671 true) else (if t670 > 59 then (warderref03_Time.j4 k x6 t667 t668 t669 t670 t671 true) else (if t671 < 0 then (warderref03_Time.j4 k x6 t667 t668 t669 t670 t671 true) else (warderref03_Time.j4 k x6 t667 t668 t669 t670 t671 (decide (t671 > 59))))))))))) else (warderref03_Time.j4 k x6 t667 t668 t669 t670 t671 true)) else (none))))))
noncomputable def warderref03_Time.j4 : Nat → Int → Int → Int → Int → Int → Int → Bool → Option (Int × Int)
 | 0, _, _, _, _, _, _, _ => none
 | k + 1, x6, x11, x12, x13, x14, x15, x120 => if x120 = true then (some (0, 32)) else ((warderref03_month.f x6 x11).bind fun t673 => (if x12 > t673 then (some (0, 32)) else ((warderref03_days.f x6).bind fun t674 => (warderref03_Time.l0 k x6 x11 x13 x14 x15 (wrap64 ((wrap64 (t674 + x12)) - 1)) 1))))
noncomputable def warderref03_Time.l0 : Nat → Int → Int → Int → Int → Int → Int → Int → Option (Int × Int)
 | 0, _, _, _, _, _, _, _ => none
 | k + 1, x6, x11, x13, x14, x15, x16, x17 => if x17 < x11 then ((warderref03_month.f x6 x17).bind fun t675 => (warderref03_Time.l0 k x6 x11 x13 x14 x15 (wrap64 (x16 + t675)) (wrap64 (x17 + 1)))) else (some (wrap64 ((wrap64 (x16 * 86400)) + (wrap64 ((wrap64 ((wrap64 (3600 * x13)) + (wrap64 (60 * x14)))) + x15))), 0))
noncomputable def warderref03_Time.j0 : Nat → Int → List Int → Bool → Option (Int × Int)
 | 0, _, _, _ => none
 | k + 1, x0, x1, x19 => if x19 = true then ((warderref03_number.f x1 0).bind fun t649 => (if t649 ≥ 0 then (warderref03_Time.j1 k x1 (wrap64 (1900 + t649)) t649 (decide (t649 < 50))) else (warderref03_Time.j1 k x1 (wrap64 (1900 + t649)) t649 false))) else (if x0 = 24 then (warderref03_Time.j2 k x1 ((x1.length : Int) == 15)) else (warderref03_Time.j2 k x1 false))
noncomputable def warderref03_Time.j1 : Nat → List Int → Int → Int → Bool → Option (Int × Int)
 | 0, _, _, _, _ => none
 | k + 1, x1, x6, x8, x36 => if x36 = true then (if 2 ≤ (x1.length : Int) then (if x8 < 0 then (some (0, 32)) else (warderref03_Time.j3 k (wrap64 (2000 + x8)) (x1.drop 2))) else (none)) else (if 2 ≤ (x1.length : Int) then (if x8 < 0 then (some (0, 32)) else (warderref03_Time.j3 k x6 (x1.drop 2))) else (none))
noncomputable def warderref03_Time.j2 : Nat → List Int → Bool → Option (Int × Int)
 | 0, _, _ => none
 | k + 1, x1, x43 => if x43 = true then ((warderref03_number.f x1 0).bind fun t660 => ((warderref03_number.f x1 2).bind fun t661 => (if 4 ≤ (x1.length : Int) then (if t660 < 0 then (some (0, 32)) else (if t661 < 0 then (some (0, 32)) else (if (wrap64 ((wrap64 (100 * t660)) + t661)) < 2050 then (some (0, 32)) else (warderref03_Time.j3 k (wrap64 ((wrap64 (100 * t660)) + t661)) (x1.drop 4))))) else (none)))) else (some (0, 32))
end
noncomputable def warderref03_Time.f (k : Nat) (a0 : Int) (l1 : List Int) : Option (Int × Int) := if a0 = 23 then (warderref03_Time.j0 k a0 l1 ((l1.length : Int) == 13)) else (warderref03_Time.j0 k a0 l1 false)
set_option maxHeartbeats 8000000 in
set_option maxRecDepth 100000 in
theorem warderref03_Time.calls (k : Nat) (a0 : Int) (P1_ : Nat → Prop) (A1 : Option Addr) (c1 : Nat) (l1 : List Int) (r1 : Int) (r2 : Int) (w : World) (hs1 : Kd.V (Kd.int .u8) 5 w w.heap.size (fun k_ => P1_ k_) (.slice A1 l1.length c1) l1) (h : warderref03_Time.f k a0 l1 = some (r1, r2)) :
  Calls Tryz.prog 97 #[.int .u8 a0, .slice A1 l1.length c1] w fun e w' => e = .returned (.tuple #[.int .i64 r1, .int .i64 r2]) ∧ Below w.heap.size w w' := by
 have HO1 := Aside0.mk (show Kd.V (Kd.int .u8) 5 w w.heap.size (fun k_ => (P1_ k_ ∨ w.heap.size ≤ k_)) (.slice A1 l1.length c1) l1 from Kd.V_mono hs1 (fun k_ hk => .inl hk))
 have HB := Aside0.mk (Below.refl w.heap.size w)
 have H : (if a0 = 23 then (warderref03_Time.j0 k a0 l1 ((l1.length : Int) == 13)) else (warderref03_Time.j0 k a0 l1 false)) = some (r1, r2) := h
 clear h
 have HC3 := Aside0.mk H
 clear H
 go_enter Tryz.func97, Tryz.ntmps97
 go_upto_block 0 with (fail)
 go_cut [6, 7] (fun v6 v7 wc => ∃ (kq : Nat) (x6_2 : Int) (x7_2 : List Int), v6 = .int .i64 x6_2 ∧ Aside0 (warderref03_Time.j3 kq x6_2 x7_2 = some (r1, r2)) ∧ Aside0 (kq ≤ k) ∧ Aside0 (Kd.V (Kd.int .u8) 5 wc w.heap.size (fun k_ => (P1_ k_ ∨ w.heap.size ≤ k_)) v7 x7_2) ∧ Aside0 (Below w.heap.size w wc))
 case first =>
  have H := HC3.out
  clear HC3
  have HC4 := Aside0.mk H
  clear H
  go_upto_region 4 with (fail)
  go_cut [19] (fun v19 wc => ∃ (kq : Nat) (x19_3 : Bool), v19 = .bool x19_3 ∧ Aside0 (warderref03_Time.j0 kq a0 l1 x19_3 = some (r1, r2)) ∧ Aside0 (kq ≤ k) ∧ Aside0 (Kd.V (Kd.int .u8) 5 wc w.heap.size (fun k_ => (P1_ k_ ∨ w.heap.size ≤ k_)) (.slice A1 l1.length c1) l1) ∧ Aside0 (Below w.heap.size w wc))
  case first =>
   have H := HC4.out
   clear HC4
   by_cases c5 : a0 = 23
   ·rw [if_pos c5] at H
    have c5b0 : (a0 == 23) = true := beq_iff_eq.mpr c5
    have c5b1 : (a0 != 23) = false := bne_eq_false_iff_eq.mpr c5
    clear c5
    (first | rw [c5b0] | (simp only [i64_w, i32_w]; rw [c5b0]) | skip)
    have H' := Aside0.mk H
    clear H
    go_wp2
    go_meet
    case rel => exact ⟨_, (((l1.length : Int) == 13)), (by first | rfl | (simp; done) | (simp [*]; done)), H', ⟨by first | omega | exact Nat.le_refl _⟩, ⟨by (with_reducible repeat (first | apply Kd.V_alloc | apply Kd.V_drewN | apply Kd.V_drew)); exact HO1.out⟩, ⟨by repeat (first | (with_reducible first | exact HB.out | apply below_alloc | apply pw_below_drewN | apply below_drew1) | exact HB.out)⟩⟩
   ·rw [if_neg c5] at H
    have c5b0 : (a0 == 23) = false := beq_eq_false_iff_ne.mpr c5
    have c5b1 : (a0 != 23) = true := bne_iff_ne.mpr c5
    (first | rw [c5b0] | (simp only [i64_w, i32_w]; rw [c5b0]) | skip)
    have H' := Aside0.mk H
    clear H
    go_wp2
    go_meet
    case rel => exact ⟨_, (false), (by first | rfl | (simp; done) | (simp [*]; done)), H', ⟨by first | omega | exact Nat.le_refl _⟩, ⟨by (with_reducible repeat (first | apply Kd.V_alloc | apply Kd.V_drewN | apply Kd.V_drew)); exact HO1.out⟩, ⟨by repeat (first | (with_reducible first | exact HB.out | apply below_alloc | apply pw_below_drewN | apply below_drew1) | exact HB.out)⟩⟩
  case rest =>
   clear HC4
   try clear c1
   try clear p2
   try clear c5
   try clear c5b0
   try clear c5b1
   obtain ⟨kq, x19_3, rfl, HA, HJ3, HO_1, HB⟩ := hcut
   cases kq with
   | zero => exact absurd HA.out (by simp [warderref03_Time.j0])
   | succ kj3 =>
    have H := HA.out
    clear HA
    simp only [warderref03_Time.j0] at H
    by_cases c6 : x19_3 = true
    ·subst c6
     have H1 : ((warderref03_number.f l1 0).bind fun t649 => (if t649 ≥ 0 then (warderref03_Time.j1 kj3 l1 (wrap64 (1900 + t649)) t649 (decide (t649 < 50))) else (warderref03_Time.j1 kj3 l1 (wrap64 (1900 + t649)) t649 false))) = some (r1, r2) := by rw [if_pos rfl] at H; exact H
     clear H
     have H := H1
     clear H1
     replace H := Option.bind_eq_some_iff.mp H
     obtain ⟨t649, A70, H⟩ := H
     replace H : (if t649 ≥ 0 then (warderref03_Time.j1 kj3 l1 (wrap64 (1900 + t649)) t649 (decide (t649 < 50))) else (warderref03_Time.j1 kj3 l1 (wrap64 (1900 + t649)) t649 false)) = some (r1, r2) := H
     have A7 := Aside0.mk A70
     clear A70
     have HC8 := Aside0.mk H
     clear H
     go_upto_region 7 with (first | ((with_reducible refine gate_callee (f := 113) rfl ?_); refine goesL_ (some 28) rfl rfl Tryz.func113 (by kernel_rfl) rfl #[.slice A1 l1.length c1, .int .i64 0] rfl (by (try simp only [List.map_toArray, List.map_cons, List.map_nil]); first | done | rfl | (simp only [List.length_drop, List.length_take]; rfl)) ?_; (with_reducible refine (warderref03_number.calls _ _ l1 0 t649 _ ?side1 ?side2 A7.out).mono ?_); (case side1 => repeat (first | exact (Kd.V_reads' HO_1.out).2.2 | (with_reducible refine Kd.C_alloc ?_ _) | (with_reducible refine Kd.C_drewN ?_ _) | (with_reducible refine Kd.C_drew ?_))); (case side2 => exact (Kd.V_reads' HO_1.out).2.1); rintro e w' ⟨rfl, ⟨nd, rfl⟩⟩; refine ⟨_, rfl, ?_⟩))
     (try simp only [Act.put, List.setIfInBounds_toArray, List.set_cons_zero, List.set_cons_succ])
     go_cut [36] (fun v36 wc => ∃ (kq : Nat) (x36_7 : Bool), v36 = .bool x36_7 ∧ Aside0 (warderref03_Time.j1 kq l1 (wrap64 (1900 + t649)) t649 x36_7 = some (r1, r2)) ∧ Aside0 (kq ≤ kj3) ∧ Aside0 (Kd.V (Kd.int .u8) 5 wc w.heap.size (fun k_ => (P1_ k_ ∨ w.heap.size ≤ k_)) (.slice A1 l1.length c1) l1) ∧ Aside0 (Below w.heap.size w wc))
     case first =>
      have H := HC8.out
      clear HC8
      by_cases c9 : t649 ≥ 0
      ·rw [if_pos c9] at H
       have c9b0 : decide (0 ≤ t649) = true := decide_eq_true c9
       clear c9
       (first | rw [c9b0] | (simp only [i64_w, i32_w]; rw [c9b0]) | skip)
       have H' := Aside0.mk H
       clear H
       go_wp2
       go_meet
       case rel => exact ⟨_, (decide (t649 < 50)), (by first | rfl | (simp; done) | (simp [*]; done)), H', ⟨by have := HJ3.out; first | omega | exact Nat.le_refl _⟩, ⟨by (with_reducible repeat (first | apply Kd.V_alloc | apply Kd.V_drewN | apply Kd.V_drew)); exact HO_1.out⟩, ⟨by repeat (first | (with_reducible first | exact HB.out | apply below_alloc | apply pw_below_drewN | apply below_drew1) | exact HB.out)⟩⟩
      ·rw [if_neg c9] at H
       have c9b0 : decide (0 ≤ t649) = false := decide_eq_false c9
       clear c9
       (first | rw [c9b0] | (simp only [i64_w, i32_w]; rw [c9b0]) | skip)
       have H' := Aside0.mk H
       clear H
       go_wp2
       go_meet
       case rel => exact ⟨_, (false), (by first | rfl | (simp; done) | (simp [*]; done)), H', ⟨by have := HJ3.out; first | omega | exact Nat.le_refl _⟩, ⟨by (with_reducible repeat (first | apply Kd.V_alloc | apply Kd.V_drewN | apply Kd.V_drew)); exact HO_1.out⟩, ⟨by repeat (first | (with_reducible first | exact HB.out | apply below_alloc | apply pw_below_drewN | apply below_drew1) | exact HB.out)⟩⟩
     case rest =>
      clear HC8
      try clear c1
      try clear p2
      try clear c5
      try clear c5b0
      try clear c5b1
      try clear c6
      try clear p6
      try clear c9
      try clear c9b0
      try clear p2
      obtain ⟨kq, x36_7, rfl, HA, HJ7, HO_1, HB⟩ := hcut
      cases kq with
      | zero => exact absurd HA.out (by simp [warderref03_Time.j1])
      | succ kj7 =>
       have H := HA.out
       clear HA
       simp only [warderref03_Time.j1] at H
       by_cases c10 : x36_7 = true
       ·subst c10
        have H1 : (if 2 ≤ (l1.length : Int) then (if t649 < 0 then (some (0, 32)) else (warderref03_Time.j3 kj7 (wrap64 (2000 + t649)) (l1.drop 2))) else (none)) = some (r1, r2) := by rw [if_pos rfl] at H; exact H
        clear H
        have H := H1
        clear H1
        by_cases c11 : 2 ≤ (l1.length : Int)
        ·rw [if_pos c11] at H
         have c11b0 := eq_true c11
         have c11b1 : decide (2 ≤ (l1.length : Int)) = true := decide_eq_true c11
         clear c11
         obtain ⟨y650, hy650⟩ : ∃ y_ : List Int, y_ = (l1.drop 2) := ⟨_, rfl⟩
         replace H : (if t649 < 0 then (some (0, 32)) else (warderref03_Time.j3 kj7 (wrap64 (2000 + t649)) y650)) = some (r1, r2) := by first | (rw [hy650]; with_reducible exact H) | (have H2_ := (Option.bind_some _ _).symm.trans H; rw [hy650]; with_reducible exact H2_) | (have H2_ := (Option.bind_some _ _).symm.trans H; with_reducible exact H2_) | with_reducible exact H | (rw [hy650]; exact H) | exact H
         have Ny650 := Aside0.mk hy650
         clear hy650
         by_cases c12 : t649 < 0
         ·rw [if_pos c12] at H
          have c12b0 : decide (t649 < 0) = true := decide_eq_true c12
          clear c12
          simp only [Option.some.injEq, Prod.mk.injEq] at H
          obtain ⟨rfl, rfl⟩ := H
          have q13 : (2 : Int) ≤ ((l1.length : Int) : Int) := of_decide_eq_true (by first | (with_reducible assumption) | assumption)
          obtain ⟨i013, hi013, _, hsz13, _⟩ := info_parts info5
          have hroom13 : l1.length ≤ c1 := (Kd.V_reads' HO_1.out).2.1
          have hC13 : Kd.F (Kd.int .u8) _ _ A1 l1.length l1 := (Kd.V_at (base := w.heap.size) HO_1.out).2.2
          have hcut13 := cut_from (P := Tryz.prog) 25 5 .i64 Tryz.underlying25 hi013 1 hsz13 A1 l1.length c1 2 (by omega) q13
          have hr13 := Kd.F_cut (m := (2 : Int).toNat) (c := c1) hC13 (by omega) hroom13
          obtain ⟨A13, hA13⟩ : ∃ A_, A_ = (if c1 = (2 : Int).toNat then A1 else (A1 : Option Addr).map (·.add ((2 : Int).toNat * 1))) := ⟨_, rfl⟩
          obtain ⟨c13, hc13⟩ : ∃ c_, c_ = c1 - (2 : Int).toNat := ⟨_, rfl⟩
          have hy13 : y650.length = l1.length - (2 : Int).toNat := (by rw [Ny650.out, List.length_drop] <;> omega)
          rw [show (l1).drop (2 : Int).toNat = y650 from Ny650.out.symm] at hr13
          replace hr13 : Kd.F (Kd.int .u8) _ _ A13 y650.length y650 := (by rw [hA13]; exact hr13)
          rw [← hy13, ← hA13, ← hc13] at hcut13
          have HO654 := Aside0.mk (show Kd.V (Kd.int .u8) 5 _ w.heap.size _ (.slice A13 y650.length c13) y650 from Kd.V_mk (by rw [hy13, hc13]; exact Nat.sub_le_sub_right hroom13 _) hr13)
          have HC654 := Aside0.mk (show y650.length ≤ c13 from by rw [hy13, hc13]; exact Nat.sub_le_sub_right hroom13 _)
          clear hr13 hC13 hroom13 hi013 hsz13 hc13
          have KY13 := Aside0.mk hy13
          have KA13 := Aside0.mk hA13
          clear hy13 hA13
          replace q13 := eq_true q13
          go_wp2
          go_ret2
          exact ⟨by first | rfl | (simp [errW_none, errW_some] <;> rfl) | (simp [*, errW_none, errW_some] <;> rfl), by repeat (first | (with_reducible first | exact HB.out | apply below_alloc | apply pw_below_drewN | apply below_drew1) | exact HB.out)⟩
         ·rw [if_neg c12] at H
          have c12b0 : decide (t649 < 0) = false := decide_eq_false c12
          clear c12
          have H' := Aside0.mk H
          clear H
          have q14 : (2 : Int) ≤ ((l1.length : Int) : Int) := of_decide_eq_true (by first | (with_reducible assumption) | assumption)
          obtain ⟨i014, hi014, _, hsz14, _⟩ := info_parts info5
          have hroom14 : l1.length ≤ c1 := (Kd.V_reads' HO_1.out).2.1
          have hC14 : Kd.F (Kd.int .u8) _ _ A1 l1.length l1 := (Kd.V_at (base := w.heap.size) HO_1.out).2.2
          have hcut14 := cut_from (P := Tryz.prog) 25 5 .i64 Tryz.underlying25 hi014 1 hsz14 A1 l1.length c1 2 (by omega) q14
          have hr14 := Kd.F_cut (m := (2 : Int).toNat) (c := c1) hC14 (by omega) hroom14
          obtain ⟨A14, hA14⟩ : ∃ A_, A_ = (if c1 = (2 : Int).toNat then A1 else (A1 : Option Addr).map (·.add ((2 : Int).toNat * 1))) := ⟨_, rfl⟩
          obtain ⟨c14, hc14⟩ : ∃ c_, c_ = c1 - (2 : Int).toNat := ⟨_, rfl⟩
          have hy14 : y650.length = l1.length - (2 : Int).toNat := (by rw [Ny650.out, List.length_drop] <;> omega)
          rw [show (l1).drop (2 : Int).toNat = y650 from Ny650.out.symm] at hr14
          replace hr14 : Kd.F (Kd.int .u8) _ _ A14 y650.length y650 := (by rw [hA14]; exact hr14)
          rw [← hy14, ← hA14, ← hc14] at hcut14
          have HO654 := Aside0.mk (show Kd.V (Kd.int .u8) 5 _ w.heap.size _ (.slice A14 y650.length c14) y650 from Kd.V_mk (by rw [hy14, hc14]; exact Nat.sub_le_sub_right hroom14 _) hr14)
          have HC654 := Aside0.mk (show y650.length ≤ c14 from by rw [hy14, hc14]; exact Nat.sub_le_sub_right hroom14 _)
          clear hr14 hC14 hroom14 hi014 hsz14 hc14
          have KY14 := Aside0.mk hy14
          have KA14 := Aside0.mk hA14
          clear hy14 hA14
          replace q14 := eq_true q14
          go_wp2
          go_meet
          case rel => exact ⟨_, (wrap64 (2000 + t649)), (y650), (by first | rfl | (simp; done) | (simp [*]; done)), H', ⟨by have := HJ3.out; have := HJ7.out; first | omega | exact Nat.le_refl _⟩, ⟨by (with_reducible repeat (first | apply Kd.V_alloc | apply Kd.V_drewN | apply Kd.V_drew)); exact HO654.out⟩, ⟨by repeat (first | (with_reducible first | exact HB.out | apply below_alloc | apply pw_below_drewN | apply below_drew1) | exact HB.out)⟩⟩
        ·rw [if_neg c11] at H
         exact absurd H (by simp)
       ·replace c10 := Bool.eq_false_iff.mpr c10
        subst c10
        have H1 : (if 2 ≤ (l1.length : Int) then (if t649 < 0 then (some (0, 32)) else (warderref03_Time.j3 kj7 (wrap64 (1900 + t649)) (l1.drop 2))) else (none)) = some (r1, r2) := by rw [if_neg (show ¬ (false = true) by decide)] at H; exact H
        clear H
        have H := H1
        clear H1
        by_cases c15 : 2 ≤ (l1.length : Int)
        ·rw [if_pos c15] at H
         have c15b0 := eq_true c15
         have c15b1 : decide (2 ≤ (l1.length : Int)) = true := decide_eq_true c15
         clear c15
         obtain ⟨y655, hy655⟩ : ∃ y_ : List Int, y_ = (l1.drop 2) := ⟨_, rfl⟩
         replace H : (if t649 < 0 then (some (0, 32)) else (warderref03_Time.j3 kj7 (wrap64 (1900 + t649)) y655)) = some (r1, r2) := by first | (rw [hy655]; with_reducible exact H) | (have H2_ := (Option.bind_some _ _).symm.trans H; rw [hy655]; with_reducible exact H2_) | (have H2_ := (Option.bind_some _ _).symm.trans H; with_reducible exact H2_) | with_reducible exact H | (rw [hy655]; exact H) | exact H
         have Ny655 := Aside0.mk hy655
         clear hy655
         by_cases c16 : t649 < 0
         ·rw [if_pos c16] at H
          have c16b0 : decide (t649 < 0) = true := decide_eq_true c16
          clear c16
          simp only [Option.some.injEq, Prod.mk.injEq] at H
          obtain ⟨rfl, rfl⟩ := H
          have q17 : (2 : Int) ≤ ((l1.length : Int) : Int) := of_decide_eq_true (by first | (with_reducible assumption) | assumption)
          obtain ⟨i017, hi017, _, hsz17, _⟩ := info_parts info5
          have hroom17 : l1.length ≤ c1 := (Kd.V_reads' HO_1.out).2.1
          have hC17 : Kd.F (Kd.int .u8) _ _ A1 l1.length l1 := (Kd.V_at (base := w.heap.size) HO_1.out).2.2
          have hcut17 := cut_from (P := Tryz.prog) 25 5 .i64 Tryz.underlying25 hi017 1 hsz17 A1 l1.length c1 2 (by omega) q17
          have hr17 := Kd.F_cut (m := (2 : Int).toNat) (c := c1) hC17 (by omega) hroom17
          obtain ⟨A17, hA17⟩ : ∃ A_, A_ = (if c1 = (2 : Int).toNat then A1 else (A1 : Option Addr).map (·.add ((2 : Int).toNat * 1))) := ⟨_, rfl⟩
          obtain ⟨c17, hc17⟩ : ∃ c_, c_ = c1 - (2 : Int).toNat := ⟨_, rfl⟩
          have hy17 : y655.length = l1.length - (2 : Int).toNat := (by rw [Ny655.out, List.length_drop] <;> omega)
          rw [show (l1).drop (2 : Int).toNat = y655 from Ny655.out.symm] at hr17
          replace hr17 : Kd.F (Kd.int .u8) _ _ A17 y655.length y655 := (by rw [hA17]; exact hr17)
          rw [← hy17, ← hA17, ← hc17] at hcut17
          have HO659 := Aside0.mk (show Kd.V (Kd.int .u8) 5 _ w.heap.size _ (.slice A17 y655.length c17) y655 from Kd.V_mk (by rw [hy17, hc17]; exact Nat.sub_le_sub_right hroom17 _) hr17)
          have HC659 := Aside0.mk (show y655.length ≤ c17 from by rw [hy17, hc17]; exact Nat.sub_le_sub_right hroom17 _)
          clear hr17 hC17 hroom17 hi017 hsz17 hc17
          have KY17 := Aside0.mk hy17
          have KA17 := Aside0.mk hA17
          clear hy17 hA17
          replace q17 := eq_true q17
          go_wp2
          go_ret2
          exact ⟨by first | rfl | (simp [errW_none, errW_some] <;> rfl) | (simp [*, errW_none, errW_some] <;> rfl), by repeat (first | (with_reducible first | exact HB.out | apply below_alloc | apply pw_below_drewN | apply below_drew1) | exact HB.out)⟩
         ·rw [if_neg c16] at H
          have c16b0 : decide (t649 < 0) = false := decide_eq_false c16
          clear c16
          have H' := Aside0.mk H
          clear H
          have q18 : (2 : Int) ≤ ((l1.length : Int) : Int) := of_decide_eq_true (by first | (with_reducible assumption) | assumption)
          obtain ⟨i018, hi018, _, hsz18, _⟩ := info_parts info5
          have hroom18 : l1.length ≤ c1 := (Kd.V_reads' HO_1.out).2.1
          have hC18 : Kd.F (Kd.int .u8) _ _ A1 l1.length l1 := (Kd.V_at (base := w.heap.size) HO_1.out).2.2
          have hcut18 := cut_from (P := Tryz.prog) 25 5 .i64 Tryz.underlying25 hi018 1 hsz18 A1 l1.length c1 2 (by omega) q18
          have hr18 := Kd.F_cut (m := (2 : Int).toNat) (c := c1) hC18 (by omega) hroom18
          obtain ⟨A18, hA18⟩ : ∃ A_, A_ = (if c1 = (2 : Int).toNat then A1 else (A1 : Option Addr).map (·.add ((2 : Int).toNat * 1))) := ⟨_, rfl⟩
          obtain ⟨c18, hc18⟩ : ∃ c_, c_ = c1 - (2 : Int).toNat := ⟨_, rfl⟩
          have hy18 : y655.length = l1.length - (2 : Int).toNat := (by rw [Ny655.out, List.length_drop] <;> omega)
          rw [show (l1).drop (2 : Int).toNat = y655 from Ny655.out.symm] at hr18
          replace hr18 : Kd.F (Kd.int .u8) _ _ A18 y655.length y655 := (by rw [hA18]; exact hr18)
          rw [← hy18, ← hA18, ← hc18] at hcut18
          have HO659 := Aside0.mk (show Kd.V (Kd.int .u8) 5 _ w.heap.size _ (.slice A18 y655.length c18) y655 from Kd.V_mk (by rw [hy18, hc18]; exact Nat.sub_le_sub_right hroom18 _) hr18)
          have HC659 := Aside0.mk (show y655.length ≤ c18 from by rw [hy18, hc18]; exact Nat.sub_le_sub_right hroom18 _)
          clear hr18 hC18 hroom18 hi018 hsz18 hc18
          have KY18 := Aside0.mk hy18
          have KA18 := Aside0.mk hA18
          clear hy18 hA18
          replace q18 := eq_true q18
          go_wp2
          go_meet
          case rel => exact ⟨_, ((wrap64 (1900 + t649))), (y655), (by first | rfl | (simp; done) | (simp [*]; done)), H', ⟨by have := HJ3.out; have := HJ7.out; first | omega | exact Nat.le_refl _⟩, ⟨by (with_reducible repeat (first | apply Kd.V_alloc | apply Kd.V_drewN | apply Kd.V_drew)); exact HO659.out⟩, ⟨by repeat (first | (with_reducible first | exact HB.out | apply below_alloc | apply pw_below_drewN | apply below_drew1) | exact HB.out)⟩⟩
        ·rw [if_neg c15] at H
         exact absurd H (by simp)
    ·replace c6 := Bool.eq_false_iff.mpr c6
     subst c6
     have H1 : (if a0 = 24 then (warderref03_Time.j2 kj3 l1 ((l1.length : Int) == 15)) else (warderref03_Time.j2 kj3 l1 false)) = some (r1, r2) := by rw [if_neg (show ¬ (false = true) by decide)] at H; exact H
     clear H
     have H := H1
     clear H1
     have HC19 := Aside0.mk H
     clear H
     go_upto_region 12 with (fail)
     go_cut [43] (fun v43 wc => ∃ (kq : Nat) (x43_18 : Bool), v43 = .bool x43_18 ∧ Aside0 (warderref03_Time.j2 kq l1 x43_18 = some (r1, r2)) ∧ Aside0 (kq ≤ kj3) ∧ Aside0 (Kd.V (Kd.int .u8) 5 wc w.heap.size (fun k_ => (P1_ k_ ∨ w.heap.size ≤ k_)) (.slice A1 l1.length c1) l1) ∧ Aside0 (Below w.heap.size w wc))
     case first =>
      have H := HC19.out
      clear HC19
      by_cases c20 : a0 = 24
      ·rw [if_pos c20] at H
       have c20b0 : (a0 == 24) = true := beq_iff_eq.mpr c20
       have c20b1 : (a0 != 24) = false := bne_eq_false_iff_eq.mpr c20
       clear c20
       (first | rw [c20b0] | (simp only [i64_w, i32_w]; rw [c20b0]) | skip)
       have H' := Aside0.mk H
       clear H
       go_wp2
       go_meet
       case rel => exact ⟨_, (((l1.length : Int) == 15)), (by first | rfl | (simp; done) | (simp [*]; done)), H', ⟨by have := HJ3.out; first | omega | exact Nat.le_refl _⟩, ⟨by (with_reducible repeat (first | apply Kd.V_alloc | apply Kd.V_drewN | apply Kd.V_drew)); exact HO_1.out⟩, ⟨by repeat (first | (with_reducible first | exact HB.out | apply below_alloc | apply pw_below_drewN | apply below_drew1) | exact HB.out)⟩⟩
      ·rw [if_neg c20] at H
       have c20b0 : (a0 == 24) = false := beq_eq_false_iff_ne.mpr c20
       have c20b1 : (a0 != 24) = true := bne_iff_ne.mpr c20
       (first | rw [c20b0] | (simp only [i64_w, i32_w]; rw [c20b0]) | skip)
       have H' := Aside0.mk H
       clear H
       go_wp2
       go_meet
       case rel => exact ⟨_, (false), (by first | rfl | (simp; done) | (simp [*]; done)), H', ⟨by have := HJ3.out; first | omega | exact Nat.le_refl _⟩, ⟨by (with_reducible repeat (first | apply Kd.V_alloc | apply Kd.V_drewN | apply Kd.V_drew)); exact HO_1.out⟩, ⟨by repeat (first | (with_reducible first | exact HB.out | apply below_alloc | apply pw_below_drewN | apply below_drew1) | exact HB.out)⟩⟩
     case rest =>
      clear HC19
      try clear c1
      try clear q1
      try clear c2
      try clear p2
      try clear c5
      try clear c5b0
      try clear c5b1
      try clear c6
      try clear p6
      try clear c9
      try clear c9b0
      try clear c10
      try clear c11
      try clear c11b0
      try clear c11b1
      try clear c12
      try clear c12b0
      try clear c13
      try clear q13
      try clear c14
      try clear q14
      try clear c15
      try clear c15b0
      try clear c15b1
      try clear c16
      try clear c16b0
      try clear c17
      try clear q17
      try clear c18
      try clear q18
      try clear c20
      try clear c20b0
      try clear c20b1
      try clear p2
      try clear p6
      try clear q13
      try clear q14
      try clear q17
      try clear q18
      obtain ⟨kq, x43_18, rfl, HA, HJ18, HO_1, HB⟩ := hcut
      cases kq with
      | zero => exact absurd HA.out (by simp [warderref03_Time.j2])
      | succ kj18 =>
       have H := HA.out
       clear HA
       simp only [warderref03_Time.j2] at H
       by_cases c21 : x43_18 = true
       ·subst c21
        have H1 : ((warderref03_number.f l1 0).bind fun t660 => ((warderref03_number.f l1 2).bind fun t661 => (if 4 ≤ (l1.length : Int) then (if t660 < 0 then (some (0, 32)) else (if t661 < 0 then (some (0, 32)) else (if (wrap64 ((wrap64 (100 * t660)) + t661)) < 2050 then (some (0, 32)) else (warderref03_Time.j3 kj18 (wrap64 ((wrap64 (100 * t660)) + t661)) (l1.drop 4))))) else (none)))) = some (r1, r2) := by rw [if_pos rfl] at H; exact H
        clear H
        have H := H1
        clear H1
        replace H := Option.bind_eq_some_iff.mp H
        obtain ⟨t660, A220, H⟩ := H
        replace H : ((warderref03_number.f l1 2).bind fun t661 => (if 4 ≤ (l1.length : Int) then (if t660 < 0 then (some (0, 32)) else (if t661 < 0 then (some (0, 32)) else (if (wrap64 ((wrap64 (100 * t660)) + t661)) < 2050 then (some (0, 32)) else (warderref03_Time.j3 kj18 (wrap64 ((wrap64 (100 * t660)) + t661)) (l1.drop 4))))) else (none))) = some (r1, r2) := H
        have A22 := Aside0.mk A220
        clear A220
        replace H := Option.bind_eq_some_iff.mp H
        obtain ⟨t661, A230, H⟩ := H
        replace H : (if 4 ≤ (l1.length : Int) then (if t660 < 0 then (some (0, 32)) else (if t661 < 0 then (some (0, 32)) else (if (wrap64 ((wrap64 (100 * t660)) + t661)) < 2050 then (some (0, 32)) else (warderref03_Time.j3 kj18 (wrap64 ((wrap64 (100 * t660)) + t661)) (l1.drop 4))))) else (none)) = some (r1, r2) := H
        have A23 := Aside0.mk A230
        clear A230
        by_cases c24 : 4 ≤ (l1.length : Int)
        ·rw [if_pos c24] at H
         have c24b0 := eq_true c24
         have c24b1 : decide (4 ≤ (l1.length : Int)) = true := decide_eq_true c24
         clear c24
         obtain ⟨y662, hy662⟩ : ∃ y_ : List Int, y_ = (l1.drop 4) := ⟨_, rfl⟩
         replace H : (if t660 < 0 then (some (0, 32)) else (if t661 < 0 then (some (0, 32)) else (if (wrap64 ((wrap64 (100 * t660)) + t661)) < 2050 then (some (0, 32)) else (warderref03_Time.j3 kj18 (wrap64 ((wrap64 (100 * t660)) + t661)) y662)))) = some (r1, r2) := by first | (rw [hy662]; with_reducible exact H) | (have H2_ := (Option.bind_some _ _).symm.trans H; rw [hy662]; with_reducible exact H2_) | (have H2_ := (Option.bind_some _ _).symm.trans H; with_reducible exact H2_) | with_reducible exact H | (rw [hy662]; exact H) | exact H
         have Ny662 := Aside0.mk hy662
         clear hy662
         by_cases c25 : t660 < 0
         ·rw [if_pos c25] at H
          have c25b0 : decide (t660 < 0) = true := decide_eq_true c25
          clear c25
          simp only [Option.some.injEq, Prod.mk.injEq] at H
          obtain ⟨rfl, rfl⟩ := H
          go_wp2_with (first | ((with_reducible refine gate_callee (f := 113) rfl ?_); refine goesL_ (some 52) rfl rfl Tryz.func113 (by kernel_rfl) rfl #[.slice A1 l1.length c1, .int .i64 0] rfl (by (try simp only [List.map_toArray, List.map_cons, List.map_nil]); first | done | rfl | (simp only [List.length_drop, List.length_take]; rfl)) ?_; (with_reducible refine (warderref03_number.calls _ _ l1 0 t660 _ ?side1 ?side2 A22.out).mono ?_); (case side1 => repeat (first | exact (Kd.V_reads' HO_1.out).2.2 | (with_reducible refine Kd.C_alloc ?_ _) | (with_reducible refine Kd.C_drewN ?_ _) | (with_reducible refine Kd.C_drew ?_))); (case side2 => exact (Kd.V_reads' HO_1.out).2.1); rintro e w' ⟨rfl, ⟨nd, rfl⟩⟩; refine ⟨_, rfl, ?_⟩) | ((with_reducible refine gate_callee (f := 113) rfl ?_); refine goesL_ (some 54) rfl rfl Tryz.func113 (by kernel_rfl) rfl #[.slice A1 l1.length c1, .int .i64 2] rfl (by (try simp only [List.map_toArray, List.map_cons, List.map_nil]); first | done | rfl | (simp only [List.length_drop, List.length_take]; rfl)) ?_; (with_reducible refine (warderref03_number.calls _ _ l1 2 t661 _ ?side1 ?side2 A23.out).mono ?_); (case side1 => repeat (first | exact (Kd.V_reads' HO_1.out).2.2 | (with_reducible refine Kd.C_alloc ?_ _) | (with_reducible refine Kd.C_drewN ?_ _) | (with_reducible refine Kd.C_drew ?_))); (case side2 => exact (Kd.V_reads' HO_1.out).2.1); rintro e w' ⟨rfl, ⟨nd, rfl⟩⟩; refine ⟨_, rfl, ?_⟩; have q26 : (4 : Int) ≤ ((l1.length : Int) : Int) := of_decide_eq_true (by first | (with_reducible assumption) | assumption); obtain ⟨i026, hi026, _, hsz26, _⟩ := info_parts info5; have hroom26 : l1.length ≤ c1 := (Kd.V_reads' HO_1.out).2.1; have hC26 : Kd.F (Kd.int .u8) _ _ A1 l1.length l1 := (Kd.V_at (base := w.heap.size) HO_1.out).2.2; have hcut26 := cut_from (P := Tryz.prog) 25 5 .i64 Tryz.underlying25 hi026 1 hsz26 A1 l1.length c1 4 (by omega) q26; have hr26 := Kd.F_cut (m := (4 : Int).toNat) (c := c1) hC26 (by omega) hroom26; obtain ⟨A26, hA26⟩ : ∃ A_, A_ = (if c1 = (4 : Int).toNat then A1 else (A1 : Option Addr).map (·.add ((4 : Int).toNat * 1))) := ⟨_, rfl⟩; obtain ⟨c26, hc26⟩ : ∃ c_, c_ = c1 - (4 : Int).toNat := ⟨_, rfl⟩; have hy26 : y662.length = l1.length - (4 : Int).toNat := (by rw [Ny662.out, List.length_drop] <;> omega); rw [show (l1).drop (4 : Int).toNat = y662 from Ny662.out.symm] at hr26; replace hr26 : Kd.F (Kd.int .u8) _ _ A26 y662.length y662 := (by rw [hA26]; exact hr26); rw [← hy26, ← hA26, ← hc26] at hcut26; have HO666 := Aside0.mk (show Kd.V (Kd.int .u8) 5 _ w.heap.size _ (.slice A26 y662.length c26) y662 from Kd.V_mk (by rw [hy26, hc26]; exact Nat.sub_le_sub_right hroom26 _) hr26); have HC666 := Aside0.mk (show y662.length ≤ c26 from by rw [hy26, hc26]; exact Nat.sub_le_sub_right hroom26 _); clear hr26 hC26 hroom26 hi026 hsz26 hc26; have KY26 := Aside0.mk hy26; have KA26 := Aside0.mk hA26; clear hy26 hA26; replace q26 := eq_true q26))
          go_ret2
          exact ⟨by first | rfl | (simp [errW_none, errW_some] <;> rfl) | (simp [*, errW_none, errW_some] <;> rfl), by repeat (first | (with_reducible first | exact HB.out | apply below_alloc | apply pw_below_drewN | apply below_drew1) | exact HB.out)⟩
         ·rw [if_neg c25] at H
          have c25b0 : decide (t660 < 0) = false := decide_eq_false c25
          clear c25
          by_cases c27 : t661 < 0
          ·rw [if_pos c27] at H
           have c27b0 : decide (t661 < 0) = true := decide_eq_true c27
           clear c27
           simp only [Option.some.injEq, Prod.mk.injEq] at H
           obtain ⟨rfl, rfl⟩ := H
           go_wp2_with (first | ((with_reducible refine gate_callee (f := 113) rfl ?_); refine goesL_ (some 52) rfl rfl Tryz.func113 (by kernel_rfl) rfl #[.slice A1 l1.length c1, .int .i64 0] rfl (by (try simp only [List.map_toArray, List.map_cons, List.map_nil]); first | done | rfl | (simp only [List.length_drop, List.length_take]; rfl)) ?_; (with_reducible refine (warderref03_number.calls _ _ l1 0 t660 _ ?side1 ?side2 A22.out).mono ?_); (case side1 => repeat (first | exact (Kd.V_reads' HO_1.out).2.2 | (with_reducible refine Kd.C_alloc ?_ _) | (with_reducible refine Kd.C_drewN ?_ _) | (with_reducible refine Kd.C_drew ?_))); (case side2 => exact (Kd.V_reads' HO_1.out).2.1); rintro e w' ⟨rfl, ⟨nd, rfl⟩⟩; refine ⟨_, rfl, ?_⟩) | ((with_reducible refine gate_callee (f := 113) rfl ?_); refine goesL_ (some 54) rfl rfl Tryz.func113 (by kernel_rfl) rfl #[.slice A1 l1.length c1, .int .i64 2] rfl (by (try simp only [List.map_toArray, List.map_cons, List.map_nil]); first | done | rfl | (simp only [List.length_drop, List.length_take]; rfl)) ?_; (with_reducible refine (warderref03_number.calls _ _ l1 2 t661 _ ?side1 ?side2 A23.out).mono ?_); (case side1 => repeat (first | exact (Kd.V_reads' HO_1.out).2.2 | (with_reducible refine Kd.C_alloc ?_ _) | (with_reducible refine Kd.C_drewN ?_ _) | (with_reducible refine Kd.C_drew ?_))); (case side2 => exact (Kd.V_reads' HO_1.out).2.1); rintro e w' ⟨rfl, ⟨nd, rfl⟩⟩; refine ⟨_, rfl, ?_⟩; have q28 : (4 : Int) ≤ ((l1.length : Int) : Int) := of_decide_eq_true (by first | (with_reducible assumption) | assumption); obtain ⟨i028, hi028, _, hsz28, _⟩ := info_parts info5; have hroom28 : l1.length ≤ c1 := (Kd.V_reads' HO_1.out).2.1; have hC28 : Kd.F (Kd.int .u8) _ _ A1 l1.length l1 := (Kd.V_at (base := w.heap.size) HO_1.out).2.2; have hcut28 := cut_from (P := Tryz.prog) 25 5 .i64 Tryz.underlying25 hi028 1 hsz28 A1 l1.length c1 4 (by omega) q28; have hr28 := Kd.F_cut (m := (4 : Int).toNat) (c := c1) hC28 (by omega) hroom28; obtain ⟨A28, hA28⟩ : ∃ A_, A_ = (if c1 = (4 : Int).toNat then A1 else (A1 : Option Addr).map (·.add ((4 : Int).toNat * 1))) := ⟨_, rfl⟩; obtain ⟨c28, hc28⟩ : ∃ c_, c_ = c1 - (4 : Int).toNat := ⟨_, rfl⟩; have hy28 : y662.length = l1.length - (4 : Int).toNat := (by rw [Ny662.out, List.length_drop] <;> omega); rw [show (l1).drop (4 : Int).toNat = y662 from Ny662.out.symm] at hr28; replace hr28 : Kd.F (Kd.int .u8) _ _ A28 y662.length y662 := (by rw [hA28]; exact hr28); rw [← hy28, ← hA28, ← hc28] at hcut28; have HO666 := Aside0.mk (show Kd.V (Kd.int .u8) 5 _ w.heap.size _ (.slice A28 y662.length c28) y662 from Kd.V_mk (by rw [hy28, hc28]; exact Nat.sub_le_sub_right hroom28 _) hr28); have HC666 := Aside0.mk (show y662.length ≤ c28 from by rw [hy28, hc28]; exact Nat.sub_le_sub_right hroom28 _); clear hr28 hC28 hroom28 hi028 hsz28 hc28; have KY28 := Aside0.mk hy28; have KA28 := Aside0.mk hA28; clear hy28 hA28; replace q28 := eq_true q28))
           go_ret2
           exact ⟨by first | rfl | (simp [errW_none, errW_some] <;> rfl) | (simp [*, errW_none, errW_some] <;> rfl), by repeat (first | (with_reducible first | exact HB.out | apply below_alloc | apply pw_below_drewN | apply below_drew1) | exact HB.out)⟩
          ·rw [if_neg c27] at H
           have c27b0 : decide (t661 < 0) = false := decide_eq_false c27
           clear c27
           by_cases c29 : (wrap64 ((wrap64 (100 * t660)) + t661)) < 2050
           ·rw [if_pos c29] at H
            have c29b0 : decide ((wrap64 ((wrap64 (100 * t660)) + t661)) < 2050) = true := decide_eq_true c29
            clear c29
            simp only [Option.some.injEq, Prod.mk.injEq] at H
            obtain ⟨rfl, rfl⟩ := H
            go_wp2_with (first | ((with_reducible refine gate_callee (f := 113) rfl ?_); refine goesL_ (some 52) rfl rfl Tryz.func113 (by kernel_rfl) rfl #[.slice A1 l1.length c1, .int .i64 0] rfl (by (try simp only [List.map_toArray, List.map_cons, List.map_nil]); first | done | rfl | (simp only [List.length_drop, List.length_take]; rfl)) ?_; (with_reducible refine (warderref03_number.calls _ _ l1 0 t660 _ ?side1 ?side2 A22.out).mono ?_); (case side1 => repeat (first | exact (Kd.V_reads' HO_1.out).2.2 | (with_reducible refine Kd.C_alloc ?_ _) | (with_reducible refine Kd.C_drewN ?_ _) | (with_reducible refine Kd.C_drew ?_))); (case side2 => exact (Kd.V_reads' HO_1.out).2.1); rintro e w' ⟨rfl, ⟨nd, rfl⟩⟩; refine ⟨_, rfl, ?_⟩) | ((with_reducible refine gate_callee (f := 113) rfl ?_); refine goesL_ (some 54) rfl rfl Tryz.func113 (by kernel_rfl) rfl #[.slice A1 l1.length c1, .int .i64 2] rfl (by (try simp only [List.map_toArray, List.map_cons, List.map_nil]); first | done | rfl | (simp only [List.length_drop, List.length_take]; rfl)) ?_; (with_reducible refine (warderref03_number.calls _ _ l1 2 t661 _ ?side1 ?side2 A23.out).mono ?_); (case side1 => repeat (first | exact (Kd.V_reads' HO_1.out).2.2 | (with_reducible refine Kd.C_alloc ?_ _) | (with_reducible refine Kd.C_drewN ?_ _) | (with_reducible refine Kd.C_drew ?_))); (case side2 => exact (Kd.V_reads' HO_1.out).2.1); rintro e w' ⟨rfl, ⟨nd, rfl⟩⟩; refine ⟨_, rfl, ?_⟩; have q30 : (4 : Int) ≤ ((l1.length : Int) : Int) := of_decide_eq_true (by first | (with_reducible assumption) | assumption); obtain ⟨i030, hi030, _, hsz30, _⟩ := info_parts info5; have hroom30 : l1.length ≤ c1 := (Kd.V_reads' HO_1.out).2.1; have hC30 : Kd.F (Kd.int .u8) _ _ A1 l1.length l1 := (Kd.V_at (base := w.heap.size) HO_1.out).2.2; have hcut30 := cut_from (P := Tryz.prog) 25 5 .i64 Tryz.underlying25 hi030 1 hsz30 A1 l1.length c1 4 (by omega) q30; have hr30 := Kd.F_cut (m := (4 : Int).toNat) (c := c1) hC30 (by omega) hroom30; obtain ⟨A30, hA30⟩ : ∃ A_, A_ = (if c1 = (4 : Int).toNat then A1 else (A1 : Option Addr).map (·.add ((4 : Int).toNat * 1))) := ⟨_, rfl⟩; obtain ⟨c30, hc30⟩ : ∃ c_, c_ = c1 - (4 : Int).toNat := ⟨_, rfl⟩; have hy30 : y662.length = l1.length - (4 : Int).toNat := (by rw [Ny662.out, List.length_drop] <;> omega); rw [show (l1).drop (4 : Int).toNat = y662 from Ny662.out.symm] at hr30; replace hr30 : Kd.F (Kd.int .u8) _ _ A30 y662.length y662 := (by rw [hA30]; exact hr30); rw [← hy30, ← hA30, ← hc30] at hcut30; have HO666 := Aside0.mk (show Kd.V (Kd.int .u8) 5 _ w.heap.size _ (.slice A30 y662.length c30) y662 from Kd.V_mk (by rw [hy30, hc30]; exact Nat.sub_le_sub_right hroom30 _) hr30); have HC666 := Aside0.mk (show y662.length ≤ c30 from by rw [hy30, hc30]; exact Nat.sub_le_sub_right hroom30 _); clear hr30 hC30 hroom30 hi030 hsz30 hc30; have KY30 := Aside0.mk hy30; have KA30 := Aside0.mk hA30; clear hy30 hA30; replace q30 := eq_true q30))
            go_ret2
            exact ⟨by first | rfl | (simp [errW_none, errW_some] <;> rfl) | (simp [*, errW_none, errW_some] <;> rfl), by repeat (first | (with_reducible first | exact HB.out | apply below_alloc | apply pw_below_drewN | apply below_drew1) | exact HB.out)⟩
           ·rw [if_neg c29] at H
            have c29b0 : decide ((wrap64 ((wrap64 (100 * t660)) + t661)) < 2050) = false := decide_eq_false c29
            clear c29
            have H' := Aside0.mk H
            clear H
            go_wp2_with (first | ((with_reducible refine gate_callee (f := 113) rfl ?_); refine goesL_ (some 52) rfl rfl Tryz.func113 (by kernel_rfl) rfl #[.slice A1 l1.length c1, .int .i64 0] rfl (by (try simp only [List.map_toArray, List.map_cons, List.map_nil]); first | done | rfl | (simp only [List.length_drop, List.length_take]; rfl)) ?_; (with_reducible refine (warderref03_number.calls _ _ l1 0 t660 _ ?side1 ?side2 A22.out).mono ?_); (case side1 => repeat (first | exact (Kd.V_reads' HO_1.out).2.2 | (with_reducible refine Kd.C_alloc ?_ _) | (with_reducible refine Kd.C_drewN ?_ _) | (with_reducible refine Kd.C_drew ?_))); (case side2 => exact (Kd.V_reads' HO_1.out).2.1); rintro e w' ⟨rfl, ⟨nd, rfl⟩⟩; refine ⟨_, rfl, ?_⟩) | ((with_reducible refine gate_callee (f := 113) rfl ?_); refine goesL_ (some 54) rfl rfl Tryz.func113 (by kernel_rfl) rfl #[.slice A1 l1.length c1, .int .i64 2] rfl (by (try simp only [List.map_toArray, List.map_cons, List.map_nil]); first | done | rfl | (simp only [List.length_drop, List.length_take]; rfl)) ?_; (with_reducible refine (warderref03_number.calls _ _ l1 2 t661 _ ?side1 ?side2 A23.out).mono ?_); (case side1 => repeat (first | exact (Kd.V_reads' HO_1.out).2.2 | (with_reducible refine Kd.C_alloc ?_ _) | (with_reducible refine Kd.C_drewN ?_ _) | (with_reducible refine Kd.C_drew ?_))); (case side2 => exact (Kd.V_reads' HO_1.out).2.1); rintro e w' ⟨rfl, ⟨nd, rfl⟩⟩; refine ⟨_, rfl, ?_⟩; have q31 : (4 : Int) ≤ ((l1.length : Int) : Int) := of_decide_eq_true (by first | (with_reducible assumption) | assumption); obtain ⟨i031, hi031, _, hsz31, _⟩ := info_parts info5; have hroom31 : l1.length ≤ c1 := (Kd.V_reads' HO_1.out).2.1; have hC31 : Kd.F (Kd.int .u8) _ _ A1 l1.length l1 := (Kd.V_at (base := w.heap.size) HO_1.out).2.2; have hcut31 := cut_from (P := Tryz.prog) 25 5 .i64 Tryz.underlying25 hi031 1 hsz31 A1 l1.length c1 4 (by omega) q31; have hr31 := Kd.F_cut (m := (4 : Int).toNat) (c := c1) hC31 (by omega) hroom31; obtain ⟨A31, hA31⟩ : ∃ A_, A_ = (if c1 = (4 : Int).toNat then A1 else (A1 : Option Addr).map (·.add ((4 : Int).toNat * 1))) := ⟨_, rfl⟩; obtain ⟨c31, hc31⟩ : ∃ c_, c_ = c1 - (4 : Int).toNat := ⟨_, rfl⟩; have hy31 : y662.length = l1.length - (4 : Int).toNat := (by rw [Ny662.out, List.length_drop] <;> omega); rw [show (l1).drop (4 : Int).toNat = y662 from Ny662.out.symm] at hr31; replace hr31 : Kd.F (Kd.int .u8) _ _ A31 y662.length y662 := (by rw [hA31]; exact hr31); rw [← hy31, ← hA31, ← hc31] at hcut31; have HO666 := Aside0.mk (show Kd.V (Kd.int .u8) 5 _ w.heap.size _ (.slice A31 y662.length c31) y662 from Kd.V_mk (by rw [hy31, hc31]; exact Nat.sub_le_sub_right hroom31 _) hr31); have HC666 := Aside0.mk (show y662.length ≤ c31 from by rw [hy31, hc31]; exact Nat.sub_le_sub_right hroom31 _); clear hr31 hC31 hroom31 hi031 hsz31 hc31; have KY31 := Aside0.mk hy31; have KA31 := Aside0.mk hA31; clear hy31 hA31; replace q31 := eq_true q31))
            go_meet
            case rel => exact ⟨_, (wrap64 ((wrap64 (100 * t660)) + t661)), (y662), (by first | rfl | (simp; done) | (simp [*]; done)), H', ⟨by have := HJ3.out; have := HJ18.out; first | omega | exact Nat.le_refl _⟩, ⟨by (with_reducible repeat (first | apply Kd.V_alloc | apply Kd.V_drewN | apply Kd.V_drew)); exact HO666.out⟩, ⟨by repeat (first | (with_reducible first | exact HB.out | apply below_alloc | apply pw_below_drewN | apply below_drew1) | exact HB.out)⟩⟩
        ·rw [if_neg c24] at H
         exact absurd H (by simp)
       ·replace c21 := Bool.eq_false_iff.mpr c21
        subst c21
        have H1 : (some (0, 32)) = some (r1, r2) := by rw [if_neg (show ¬ (false = true) by decide)] at H; exact H
        clear H
        have H := H1
        clear H1
        simp only [Option.some.injEq, Prod.mk.injEq] at H
        obtain ⟨rfl, rfl⟩ := H
        go_wp2
        go_ret2
        exact ⟨by first | rfl | (simp [errW_none, errW_some] <;> rfl) | (simp [*, errW_none, errW_some] <;> rfl), by repeat (first | (with_reducible first | exact HB.out | apply below_alloc | apply pw_below_drewN | apply below_drew1) | exact HB.out)⟩
 case rest =>
  clear HC3
  try clear c1
  try clear q1
  try clear c2
  try clear p2
  try clear q2
  try clear c3
  try clear q3
  try clear c5
  try clear c5b0
  try clear c5b1
  try clear c6
  try clear p6
  try clear c9
  try clear c9b0
  try clear c10
  try clear c11
  try clear c11b0
  try clear c11b1
  try clear c12
  try clear c12b0
  try clear c13
  try clear q13
  try clear c14
  try clear q14
  try clear c15
  try clear c15b0
  try clear c15b1
  try clear c16
  try clear c16b0
  try clear c17
  try clear q17
  try clear c18
  try clear q18
  try clear c20
  try clear c20b0
  try clear c20b1
  try clear c21
  try clear c24
  try clear c24b0
  try clear c24b1
  try clear c25
  try clear c25b0
  try clear c26
  try clear q26
  try clear c27
  try clear c27b0
  try clear c28
  try clear q28
  try clear c29
  try clear c29b0
  try clear c30
  try clear q30
  try clear c31
  try clear q31
  try clear p2
  try clear p6
  try clear q1
  try clear q13
  try clear q14
  try clear q17
  try clear q18
  try clear q26
  try clear q28
  try clear q30
  try clear q31
  obtain ⟨kq, x6_2, x7_2, rfl, HA, HJ2, HO_7, HB⟩ := hcut
  cases kq with
  | zero => exact absurd HA.out (by simp [warderref03_Time.j3])
  | succ kj2 =>
   have H := HA.out
   clear HA
   simp only [warderref03_Time.j3] at H
   replace H := Option.bind_eq_some_iff.mp H
   obtain ⟨t667, A320, H⟩ := H
   replace H : ((warderref03_number.f x7_2 2).bind fun t668 => ((warderref03_number.f x7_2 4).bind fun t669 => ((warderref03_number.f x7_2 6).bind fun t670 => ((warderref03_number.f x7_2 8).bind fun t671 => (if 10 < (x7_2.length : Int) then (if (rd x7_2 10) = 90 then (if t667 < 1 then (warderref03_Time.j4 kj2 x6_2 t667 t668 t669 t670 t671 true) else (if t667 > 12 then (warderref03_Time.j4 kj2 x6_2 t667 t668 t669 t670 t671 true) else (if t668 < 1 then (warderref03_Time.j4 kj2 x6_2 t667 t668 t669 t670 t671 true) else (if t669 < 0 then (warderref03_Time.j4 kj2 x6_2 t667 t668 t669 t670 t671 true) else (if t669 > 23 then (warderref03_Time.j4 kj2 x6_2 t667 t668 t669 t670 t671 true) else (if t670 < 0 then (warderref03_Time.j4 kj2 x6_2 t667 t668 t669 t670 t671 true) else (if t670 > 59 then (warderref03_Time.j4 kj2 x6_2 t667 t668 t669 t670 t671 true) else (if t671 < 0 then (warderref03_Time.j4 kj2 x6_2 t667 t668 t669 t670 t671 true) else (warderref03_Time.j4 kj2 x6_2 t667 t668 t669 t670 t671 (decide (t671 > 59))))))))))) else (warderref03_Time.j4 kj2 x6_2 t667 t668 t669 t670 t671 true)) else (none)))))) = some (r1, r2) := H
   have A32 := Aside0.mk A320
   clear A320
   replace H := Option.bind_eq_some_iff.mp H
   obtain ⟨t668, A330, H⟩ := H
   replace H : ((warderref03_number.f x7_2 4).bind fun t669 => ((warderref03_number.f x7_2 6).bind fun t670 => ((warderref03_number.f x7_2 8).bind fun t671 => (if 10 < (x7_2.length : Int) then (if (rd x7_2 10) = 90 then (if t667 < 1 then (warderref03_Time.j4 kj2 x6_2 t667 t668 t669 t670 t671 true) else (if t667 > 12 then (warderref03_Time.j4 kj2 x6_2 t667 t668 t669 t670 t671 true) else (if t668 < 1 then (warderref03_Time.j4 kj2 x6_2 t667 t668 t669 t670 t671 true) else (if t669 < 0 then (warderref03_Time.j4 kj2 x6_2 t667 t668 t669 t670 t671 true) else (if t669 > 23 then (warderref03_Time.j4 kj2 x6_2 t667 t668 t669 t670 t671 true) else (if t670 < 0 then (warderref03_Time.j4 kj2 x6_2 t667 t668 t669 t670 t671 true) else (if t670 > 59 then (warderref03_Time.j4 kj2 x6_2 t667 t668 t669 t670 t671 true) else (if t671 < 0 then (warderref03_Time.j4 kj2 x6_2 t667 t668 t669 t670 t671 true) else (warderref03_Time.j4 kj2 x6_2 t667 t668 t669 t670 t671 (decide (t671 > 59))))))))))) else (warderref03_Time.j4 kj2 x6_2 t667 t668 t669 t670 t671 true)) else (none))))) = some (r1, r2) := H
   have A33 := Aside0.mk A330
   clear A330
   replace H := Option.bind_eq_some_iff.mp H
   obtain ⟨t669, A340, H⟩ := H
   replace H : ((warderref03_number.f x7_2 6).bind fun t670 => ((warderref03_number.f x7_2 8).bind fun t671 => (if 10 < (x7_2.length : Int) then (if (rd x7_2 10) = 90 then (if t667 < 1 then (warderref03_Time.j4 kj2 x6_2 t667 t668 t669 t670 t671 true) else (if t667 > 12 then (warderref03_Time.j4 kj2 x6_2 t667 t668 t669 t670 t671 true) else (if t668 < 1 then (warderref03_Time.j4 kj2 x6_2 t667 t668 t669 t670 t671 true) else (if t669 < 0 then (warderref03_Time.j4 kj2 x6_2 t667 t668 t669 t670 t671 true) else (if t669 > 23 then (warderref03_Time.j4 kj2 x6_2 t667 t668 t669 t670 t671 true) else (if t670 < 0 then (warderref03_Time.j4 kj2 x6_2 t667 t668 t669 t670 t671 true) else (if t670 > 59 then (warderref03_Time.j4 kj2 x6_2 t667 t668 t669 t670 t671 true) else (if t671 < 0 then (warderref03_Time.j4 kj2 x6_2 t667 t668 t669 t670 t671 true) else (warderref03_Time.j4 kj2 x6_2 t667 t668 t669 t670 t671 (decide (t671 > 59))))))))))) else (warderref03_Time.j4 kj2 x6_2 t667 t668 t669 t670 t671 true)) else (none)))) = some (r1, r2) := H
   have A34 := Aside0.mk A340
   clear A340
   replace H := Option.bind_eq_some_iff.mp H
   obtain ⟨t670, A350, H⟩ := H
   replace H : ((warderref03_number.f x7_2 8).bind fun t671 => (if 10 < (x7_2.length : Int) then (if (rd x7_2 10) = 90 then (if t667 < 1 then (warderref03_Time.j4 kj2 x6_2 t667 t668 t669 t670 t671 true) else (if t667 > 12 then (warderref03_Time.j4 kj2 x6_2 t667 t668 t669 t670 t671 true) else (if t668 < 1 then (warderref03_Time.j4 kj2 x6_2 t667 t668 t669 t670 t671 true) else (if t669 < 0 then (warderref03_Time.j4 kj2 x6_2 t667 t668 t669 t670 t671 true) else (if t669 > 23 then (warderref03_Time.j4 kj2 x6_2 t667 t668 t669 t670 t671 true) else (if t670 < 0 then (warderref03_Time.j4 kj2 x6_2 t667 t668 t669 t670 t671 true) else (if t670 > 59 then (warderref03_Time.j4 kj2 x6_2 t667 t668 t669 t670 t671 true) else (if t671 < 0 then (warderref03_Time.j4 kj2 x6_2 t667 t668 t669 t670 t671 true) else (warderref03_Time.j4 kj2 x6_2 t667 t668 t669 t670 t671 (decide (t671 > 59))))))))))) else (warderref03_Time.j4 kj2 x6_2 t667 t668 t669 t670 t671 true)) else (none))) = some (r1, r2) := H
   have A35 := Aside0.mk A350
   clear A350
   replace H := Option.bind_eq_some_iff.mp H
   obtain ⟨t671, A360, H⟩ := H
   replace H : (if 10 < (x7_2.length : Int) then (if (rd x7_2 10) = 90 then (if t667 < 1 then (warderref03_Time.j4 kj2 x6_2 t667 t668 t669 t670 t671 true) else (if t667 > 12 then (warderref03_Time.j4 kj2 x6_2 t667 t668 t669 t670 t671 true) else (if t668 < 1 then (warderref03_Time.j4 kj2 x6_2 t667 t668 t669 t670 t671 true) else (if t669 < 0 then (warderref03_Time.j4 kj2 x6_2 t667 t668 t669 t670 t671 true) else (if t669 > 23 then (warderref03_Time.j4 kj2 x6_2 t667 t668 t669 t670 t671 true) else (if t670 < 0 then (warderref03_Time.j4 kj2 x6_2 t667 t668 t669 t670 t671 true) else (if t670 > 59 then (warderref03_Time.j4 kj2 x6_2 t667 t668 t669 t670 t671 true) else (if t671 < 0 then (warderref03_Time.j4 kj2 x6_2 t667 t668 t669 t670 t671 true) else (warderref03_Time.j4 kj2 x6_2 t667 t668 t669 t670 t671 (decide (t671 > 59))))))))))) else (warderref03_Time.j4 kj2 x6_2 t667 t668 t669 t670 t671 true)) else (none)) = some (r1, r2) := H
   have A36 := Aside0.mk A360
   clear A360
   have HC37 := Aside0.mk H
   clear H
   obtain ⟨Ao38, co38, eo38⟩ := Kd.V_slice HO_7.out
   subst eo38
   go_upto_region 24 with (first | ((with_reducible refine gate_callee (f := 113) rfl ?_); refine goesL_ (some 72) rfl rfl Tryz.func113 (by kernel_rfl) rfl #[.slice Ao38 x7_2.length co38, .int .i64 0] rfl (by (try simp only [List.map_toArray, List.map_cons, List.map_nil]); first | done | rfl | (simp only [List.length_drop, List.length_take]; rfl)) ?_; (with_reducible refine (warderref03_number.calls _ _ x7_2 0 t667 _ ?side1 ?side2 A32.out).mono ?_); (case side1 => repeat (first | exact (Kd.V_reads' HO_7.out).2.2 | (with_reducible refine Kd.C_alloc ?_ _) | (with_reducible refine Kd.C_drewN ?_ _) | (with_reducible refine Kd.C_drew ?_))); (case side2 => exact (Kd.V_reads' HO_7.out).2.1); rintro e w' ⟨rfl, ⟨nd, rfl⟩⟩; refine ⟨_, rfl, ?_⟩) | ((with_reducible refine gate_callee (f := 113) rfl ?_); refine goesL_ (some 74) rfl rfl Tryz.func113 (by kernel_rfl) rfl #[.slice Ao38 x7_2.length co38, .int .i64 2] rfl (by (try simp only [List.map_toArray, List.map_cons, List.map_nil]); first | done | rfl | (simp only [List.length_drop, List.length_take]; rfl)) ?_; (with_reducible refine (warderref03_number.calls _ _ x7_2 2 t668 _ ?side1 ?side2 A33.out).mono ?_); (case side1 => repeat (first | exact (Kd.V_reads' HO_7.out).2.2 | (with_reducible refine Kd.C_alloc ?_ _) | (with_reducible refine Kd.C_drewN ?_ _) | (with_reducible refine Kd.C_drew ?_))); (case side2 => exact (Kd.V_reads' HO_7.out).2.1); rintro e w' ⟨rfl, ⟨nd, rfl⟩⟩; refine ⟨_, rfl, ?_⟩) | ((with_reducible refine gate_callee (f := 113) rfl ?_); refine goesL_ (some 76) rfl rfl Tryz.func113 (by kernel_rfl) rfl #[.slice Ao38 x7_2.length co38, .int .i64 4] rfl (by (try simp only [List.map_toArray, List.map_cons, List.map_nil]); first | done | rfl | (simp only [List.length_drop, List.length_take]; rfl)) ?_; (with_reducible refine (warderref03_number.calls _ _ x7_2 4 t669 _ ?side1 ?side2 A34.out).mono ?_); (case side1 => repeat (first | exact (Kd.V_reads' HO_7.out).2.2 | (with_reducible refine Kd.C_alloc ?_ _) | (with_reducible refine Kd.C_drewN ?_ _) | (with_reducible refine Kd.C_drew ?_))); (case side2 => exact (Kd.V_reads' HO_7.out).2.1); rintro e w' ⟨rfl, ⟨nd, rfl⟩⟩; refine ⟨_, rfl, ?_⟩) | ((with_reducible refine gate_callee (f := 113) rfl ?_); refine goesL_ (some 78) rfl rfl Tryz.func113 (by kernel_rfl) rfl #[.slice Ao38 x7_2.length co38, .int .i64 6] rfl (by (try simp only [List.map_toArray, List.map_cons, List.map_nil]); first | done | rfl | (simp only [List.length_drop, List.length_take]; rfl)) ?_; (with_reducible refine (warderref03_number.calls _ _ x7_2 6 t670 _ ?side1 ?side2 A35.out).mono ?_); (case side1 => repeat (first | exact (Kd.V_reads' HO_7.out).2.2 | (with_reducible refine Kd.C_alloc ?_ _) | (with_reducible refine Kd.C_drewN ?_ _) | (with_reducible refine Kd.C_drew ?_))); (case side2 => exact (Kd.V_reads' HO_7.out).2.1); rintro e w' ⟨rfl, ⟨nd, rfl⟩⟩; refine ⟨_, rfl, ?_⟩) | ((with_reducible refine gate_callee (f := 113) rfl ?_); refine goesL_ (some 80) rfl rfl Tryz.func113 (by kernel_rfl) rfl #[.slice Ao38 x7_2.length co38, .int .i64 8] rfl (by (try simp only [List.map_toArray, List.map_cons, List.map_nil]); first | done | rfl | (simp only [List.length_drop, List.length_take]; rfl)) ?_; (with_reducible refine (warderref03_number.calls _ _ x7_2 8 t671 _ ?side1 ?side2 A36.out).mono ?_); (case side1 => repeat (first | exact (Kd.V_reads' HO_7.out).2.2 | (with_reducible refine Kd.C_alloc ?_ _) | (with_reducible refine Kd.C_drewN ?_ _) | (with_reducible refine Kd.C_drew ?_))); (case side2 => exact (Kd.V_reads' HO_7.out).2.1); rintro e w' ⟨rfl, ⟨nd, rfl⟩⟩; refine ⟨_, rfl, ?_⟩))
   (try simp only [Act.put, List.setIfInBounds_toArray, List.set_cons_zero, List.set_cons_succ])
   go_cut [120] (fun v120 wc => ∃ (kq : Nat) (x120_36 : Bool), v120 = .bool x120_36 ∧ Aside0 (warderref03_Time.j4 kq x6_2 t667 t668 t669 t670 t671 x120_36 = some (r1, r2)) ∧ Aside0 (kq ≤ kj2) ∧ Aside0 (Below w.heap.size w wc))
   case first =>
    have H := HC37.out
    clear HC37
    by_cases c39 : 10 < (x7_2.length : Int)
    ·rw [if_pos c39] at H
     have c39b0 : decide (10 < (x7_2.length : Int)) = true := decide_eq_true c39
     have c39b1 : decide (10 < x7_2.length) = true := decide_eq_true (by omega)
     clear c39
     (first | rw [c39b0] | (simp only [i64_w, i32_w]; rw [c39b0]) | skip)
     by_cases c40 : (rd x7_2 10) = 90
     ·rw [if_pos c40] at H
      have c40b0 : ((rd x7_2 10) == 90) = true := beq_iff_eq.mpr c40
      have c40b1 : ((rd x7_2 10) != 90) = false := bne_eq_false_iff_eq.mpr c40
      clear c40
      by_cases c41 : t667 < 1
      ·rw [if_pos c41] at H
       have c41b0 : decide (t667 < 1) = true := decide_eq_true c41
       clear c41
       have H' := Aside0.mk H
       clear H
       have p672 : 0 ≤ (10 : Int) := (by omega)
       have q672 : 10 < (x7_2.length : Int) := of_decide_eq_true (by first | (with_reducible assumption) | assumption)
       obtain ⟨ad672, e672, hx672_0⟩ := Kd.at_int (Kd.V_reads' HO_7.out).2.2 10 p672 q672
       cases e672
       (try simp only [show (10 : Int).toNat = 10 from rfl, Nat.reduceMul, Nat.reduceEqDiff, Go.Addr.add, ↓reduceIte] at hx672_0)
       have qi672 : (10 < x7_2.length) = True := eq_true (by omega)
       (try rw [show ((10 : Int)).toNat = 10 from rfl] at hx672_0)
       replace p672 := eq_true p672
       replace q672 := eq_true q672
       go_wp2
       go_meet
       case rel => exact ⟨_, (true), (by first | rfl | (simp; done) | (simp [*]; done)), H', ⟨by have := HJ2.out; first | omega | exact Nat.le_refl _⟩, ⟨by repeat (first | (with_reducible first | exact HB.out | apply below_alloc | apply pw_below_drewN | apply below_drew1) | exact HB.out)⟩⟩
      ·rw [if_neg c41] at H
       have c41b0 : decide (t667 < 1) = false := decide_eq_false c41
       clear c41
       by_cases c42 : t667 > 12
       ·rw [if_pos c42] at H
        have c42b0 : decide (12 < t667) = true := decide_eq_true c42
        clear c42
        have H' := Aside0.mk H
        clear H
        have p672 : 0 ≤ (10 : Int) := (by omega)
        have q672 : 10 < (x7_2.length : Int) := of_decide_eq_true (by first | (with_reducible assumption) | assumption)
        obtain ⟨ad672, e672, hx672_0⟩ := Kd.at_int (Kd.V_reads' HO_7.out).2.2 10 p672 q672
        cases e672
        (try simp only [show (10 : Int).toNat = 10 from rfl, Nat.reduceMul, Nat.reduceEqDiff, Go.Addr.add, ↓reduceIte] at hx672_0)
        have qi672 : (10 < x7_2.length) = True := eq_true (by omega)
        (try rw [show ((10 : Int)).toNat = 10 from rfl] at hx672_0)
        replace p672 := eq_true p672
        replace q672 := eq_true q672
        go_wp2
        go_meet
        case rel => exact ⟨_, (true), (by first | rfl | (simp; done) | (simp [*]; done)), H', ⟨by have := HJ2.out; first | omega | exact Nat.le_refl _⟩, ⟨by repeat (first | (with_reducible first | exact HB.out | apply below_alloc | apply pw_below_drewN | apply below_drew1) | exact HB.out)⟩⟩
       ·rw [if_neg c42] at H
        have c42b0 : decide (12 < t667) = false := decide_eq_false c42
        clear c42
        by_cases c43 : t668 < 1
        ·rw [if_pos c43] at H
         have c43b0 : decide (t668 < 1) = true := decide_eq_true c43
         clear c43
         have H' := Aside0.mk H
         clear H
         have p672 : 0 ≤ (10 : Int) := (by omega)
         have q672 : 10 < (x7_2.length : Int) := of_decide_eq_true (by first | (with_reducible assumption) | assumption)
         obtain ⟨ad672, e672, hx672_0⟩ := Kd.at_int (Kd.V_reads' HO_7.out).2.2 10 p672 q672
         cases e672
         (try simp only [show (10 : Int).toNat = 10 from rfl, Nat.reduceMul, Nat.reduceEqDiff, Go.Addr.add, ↓reduceIte] at hx672_0)
         have qi672 : (10 < x7_2.length) = True := eq_true (by omega)
         (try rw [show ((10 : Int)).toNat = 10 from rfl] at hx672_0)
         replace p672 := eq_true p672
         replace q672 := eq_true q672
         go_wp2
         go_meet
         case rel => exact ⟨_, (true), (by first | rfl | (simp; done) | (simp [*]; done)), H', ⟨by have := HJ2.out; first | omega | exact Nat.le_refl _⟩, ⟨by repeat (first | (with_reducible first | exact HB.out | apply below_alloc | apply pw_below_drewN | apply below_drew1) | exact HB.out)⟩⟩
        ·rw [if_neg c43] at H
         have c43b0 : decide (t668 < 1) = false := decide_eq_false c43
         clear c43
         by_cases c44 : t669 < 0
         ·rw [if_pos c44] at H
          have c44b0 : decide (t669 < 0) = true := decide_eq_true c44
          clear c44
          have H' := Aside0.mk H
          clear H
          have p672 : 0 ≤ (10 : Int) := (by omega)
          have q672 : 10 < (x7_2.length : Int) := of_decide_eq_true (by first | (with_reducible assumption) | assumption)
          obtain ⟨ad672, e672, hx672_0⟩ := Kd.at_int (Kd.V_reads' HO_7.out).2.2 10 p672 q672
          cases e672
          (try simp only [show (10 : Int).toNat = 10 from rfl, Nat.reduceMul, Nat.reduceEqDiff, Go.Addr.add, ↓reduceIte] at hx672_0)
          have qi672 : (10 < x7_2.length) = True := eq_true (by omega)
          (try rw [show ((10 : Int)).toNat = 10 from rfl] at hx672_0)
          replace p672 := eq_true p672
          replace q672 := eq_true q672
          go_wp2
          go_meet
          case rel => exact ⟨_, (true), (by first | rfl | (simp; done) | (simp [*]; done)), H', ⟨by have := HJ2.out; first | omega | exact Nat.le_refl _⟩, ⟨by repeat (first | (with_reducible first | exact HB.out | apply below_alloc | apply pw_below_drewN | apply below_drew1) | exact HB.out)⟩⟩
         ·rw [if_neg c44] at H
          have c44b0 : decide (t669 < 0) = false := decide_eq_false c44
          clear c44
          by_cases c45 : t669 > 23
          ·rw [if_pos c45] at H
           have c45b0 : decide (23 < t669) = true := decide_eq_true c45
           clear c45
           have H' := Aside0.mk H
           clear H
           have p672 : 0 ≤ (10 : Int) := (by omega)
           have q672 : 10 < (x7_2.length : Int) := of_decide_eq_true (by first | (with_reducible assumption) | assumption)
           obtain ⟨ad672, e672, hx672_0⟩ := Kd.at_int (Kd.V_reads' HO_7.out).2.2 10 p672 q672
           cases e672
           (try simp only [show (10 : Int).toNat = 10 from rfl, Nat.reduceMul, Nat.reduceEqDiff, Go.Addr.add, ↓reduceIte] at hx672_0)
           have qi672 : (10 < x7_2.length) = True := eq_true (by omega)
           (try rw [show ((10 : Int)).toNat = 10 from rfl] at hx672_0)
           replace p672 := eq_true p672
           replace q672 := eq_true q672
           go_wp2
           go_meet
           case rel => exact ⟨_, (true), (by first | rfl | (simp; done) | (simp [*]; done)), H', ⟨by have := HJ2.out; first | omega | exact Nat.le_refl _⟩, ⟨by repeat (first | (with_reducible first | exact HB.out | apply below_alloc | apply pw_below_drewN | apply below_drew1) | exact HB.out)⟩⟩
          ·rw [if_neg c45] at H
           have c45b0 : decide (23 < t669) = false := decide_eq_false c45
           clear c45
           by_cases c46 : t670 < 0
           ·rw [if_pos c46] at H
            have c46b0 : decide (t670 < 0) = true := decide_eq_true c46
            clear c46
            have H' := Aside0.mk H
            clear H
            have p672 : 0 ≤ (10 : Int) := (by omega)
            have q672 : 10 < (x7_2.length : Int) := of_decide_eq_true (by first | (with_reducible assumption) | assumption)
            obtain ⟨ad672, e672, hx672_0⟩ := Kd.at_int (Kd.V_reads' HO_7.out).2.2 10 p672 q672
            cases e672
            (try simp only [show (10 : Int).toNat = 10 from rfl, Nat.reduceMul, Nat.reduceEqDiff, Go.Addr.add, ↓reduceIte] at hx672_0)
            have qi672 : (10 < x7_2.length) = True := eq_true (by omega)
            (try rw [show ((10 : Int)).toNat = 10 from rfl] at hx672_0)
            replace p672 := eq_true p672
            replace q672 := eq_true q672
            go_wp2
            go_meet
            case rel => exact ⟨_, (true), (by first | rfl | (simp; done) | (simp [*]; done)), H', ⟨by have := HJ2.out; first | omega | exact Nat.le_refl _⟩, ⟨by repeat (first | (with_reducible first | exact HB.out | apply below_alloc | apply pw_below_drewN | apply below_drew1) | exact HB.out)⟩⟩
           ·rw [if_neg c46] at H
            have c46b0 : decide (t670 < 0) = false := decide_eq_false c46
            clear c46
            by_cases c47 : t670 > 59
            ·rw [if_pos c47] at H
             have c47b0 : decide (59 < t670) = true := decide_eq_true c47
             clear c47
             have H' := Aside0.mk H
             clear H
             have p672 : 0 ≤ (10 : Int) := (by omega)
             have q672 : 10 < (x7_2.length : Int) := of_decide_eq_true (by first | (with_reducible assumption) | assumption)
             obtain ⟨ad672, e672, hx672_0⟩ := Kd.at_int (Kd.V_reads' HO_7.out).2.2 10 p672 q672
             cases e672
             (try simp only [show (10 : Int).toNat = 10 from rfl, Nat.reduceMul, Nat.reduceEqDiff, Go.Addr.add, ↓reduceIte] at hx672_0)
             have qi672 : (10 < x7_2.length) = True := eq_true (by omega)
             (try rw [show ((10 : Int)).toNat = 10 from rfl] at hx672_0)
             replace p672 := eq_true p672
             replace q672 := eq_true q672
             go_wp2
             go_meet
             case rel => exact ⟨_, (true), (by first | rfl | (simp; done) | (simp [*]; done)), H', ⟨by have := HJ2.out; first | omega | exact Nat.le_refl _⟩, ⟨by repeat (first | (with_reducible first | exact HB.out | apply below_alloc | apply pw_below_drewN | apply below_drew1) | exact HB.out)⟩⟩
            ·rw [if_neg c47] at H
             have c47b0 : decide (59 < t670) = false := decide_eq_false c47
             clear c47
             by_cases c48 : t671 < 0
             ·rw [if_pos c48] at H
              have c48b0 : decide (t671 < 0) = true := decide_eq_true c48
              clear c48
              have H' := Aside0.mk H
              clear H
              have p672 : 0 ≤ (10 : Int) := (by omega)
              have q672 : 10 < (x7_2.length : Int) := of_decide_eq_true (by first | (with_reducible assumption) | assumption)
              obtain ⟨ad672, e672, hx672_0⟩ := Kd.at_int (Kd.V_reads' HO_7.out).2.2 10 p672 q672
              cases e672
              (try simp only [show (10 : Int).toNat = 10 from rfl, Nat.reduceMul, Nat.reduceEqDiff, Go.Addr.add, ↓reduceIte] at hx672_0)
              have qi672 : (10 < x7_2.length) = True := eq_true (by omega)
              (try rw [show ((10 : Int)).toNat = 10 from rfl] at hx672_0)
              replace p672 := eq_true p672
              replace q672 := eq_true q672
              go_wp2
              go_meet
              case rel => exact ⟨_, (true), (by first | rfl | (simp; done) | (simp [*]; done)), H', ⟨by have := HJ2.out; first | omega | exact Nat.le_refl _⟩, ⟨by repeat (first | (with_reducible first | exact HB.out | apply below_alloc | apply pw_below_drewN | apply below_drew1) | exact HB.out)⟩⟩
             ·rw [if_neg c48] at H
              have c48b0 : decide (t671 < 0) = false := decide_eq_false c48
              clear c48
              have H' := Aside0.mk H
              clear H
              have p672 : 0 ≤ (10 : Int) := (by omega)
              have q672 : 10 < (x7_2.length : Int) := of_decide_eq_true (by first | (with_reducible assumption) | assumption)
              obtain ⟨ad672, e672, hx672_0⟩ := Kd.at_int (Kd.V_reads' HO_7.out).2.2 10 p672 q672
              cases e672
              (try simp only [show (10 : Int).toNat = 10 from rfl, Nat.reduceMul, Nat.reduceEqDiff, Go.Addr.add, ↓reduceIte] at hx672_0)
              have qi672 : (10 < x7_2.length) = True := eq_true (by omega)
              (try rw [show ((10 : Int)).toNat = 10 from rfl] at hx672_0)
              replace p672 := eq_true p672
              replace q672 := eq_true q672
              go_wp2
              go_meet
              case rel => exact ⟨_, (decide (t671 > 59)), (by first | rfl | (simp; done) | (simp [*]; done)), H', ⟨by have := HJ2.out; first | omega | exact Nat.le_refl _⟩, ⟨by repeat (first | (with_reducible first | exact HB.out | apply below_alloc | apply pw_below_drewN | apply below_drew1) | exact HB.out)⟩⟩
     ·rw [if_neg c40] at H
      have c40b0 : ((rd x7_2 10) == 90) = false := beq_eq_false_iff_ne.mpr c40
      have c40b1 : ((rd x7_2 10) != 90) = true := bne_iff_ne.mpr c40
      have H' := Aside0.mk H
      clear H
      have p672 : 0 ≤ (10 : Int) := (by omega)
      have q672 : 10 < (x7_2.length : Int) := of_decide_eq_true (by first | (with_reducible assumption) | assumption)
      obtain ⟨ad672, e672, hx672_0⟩ := Kd.at_int (Kd.V_reads' HO_7.out).2.2 10 p672 q672
      cases e672
      (try simp only [show (10 : Int).toNat = 10 from rfl, Nat.reduceMul, Nat.reduceEqDiff, Go.Addr.add, ↓reduceIte] at hx672_0)
      have qi672 : (10 < x7_2.length) = True := eq_true (by omega)
      (try rw [show ((10 : Int)).toNat = 10 from rfl] at hx672_0)
      replace p672 := eq_true p672
      replace q672 := eq_true q672
      go_wp2
      go_meet
      case rel => exact ⟨_, (true), (by first | rfl | (simp; done) | (simp [*]; done)), H', ⟨by have := HJ2.out; first | omega | exact Nat.le_refl _⟩, ⟨by repeat (first | (with_reducible first | exact HB.out | apply below_alloc | apply pw_below_drewN | apply below_drew1) | exact HB.out)⟩⟩
    ·rw [if_neg c39] at H
     exact absurd H (by simp)
   case rest =>
    clear HC37
    try clear c1
    try clear q1
    try clear c2
    try clear p2
    try clear q2
    try clear c3
    try clear q3
    try clear c4
    try clear c5
    try clear c5b0
    try clear c5b1
    try clear c6
    try clear p6
    try clear q6
    try clear hx6
    try clear qi6
    try clear c9
    try clear c9b0
    try clear c10
    try clear c11
    try clear c11b0
    try clear c11b1
    try clear c12
    try clear c12b0
    try clear c13
    try clear q13
    try clear c14
    try clear q14
    try clear c15
    try clear c15b0
    try clear c15b1
    try clear c16
    try clear c16b0
    try clear c17
    try clear q17
    try clear c18
    try clear q18
    try clear c20
    try clear c20b0
    try clear c20b1
    try clear c21
    try clear c24
    try clear c24b0
    try clear c24b1
    try clear c25
    try clear c25b0
    try clear c26
    try clear q26
    try clear c27
    try clear c27b0
    try clear c28
    try clear q28
    try clear c29
    try clear c29b0
    try clear c30
    try clear q30
    try clear c31
    try clear q31
    try clear c39
    try clear c39b0
    try clear c39b1
    try clear c40
    try clear c40b0
    try clear c40b1
    try clear c41
    try clear c41b0
    try clear c42
    try clear c42b0
    try clear c43
    try clear c43b0
    try clear c44
    try clear c44b0
    try clear c45
    try clear c45b0
    try clear c46
    try clear c46b0
    try clear c47
    try clear c47b0
    try clear c48
    try clear c48b0
    try clear hx672_0
    try clear p2
    try clear p6
    try clear p672
    try clear q1
    try clear q13
    try clear q14
    try clear q17
    try clear q18
    try clear q2
    try clear q26
    try clear q28
    try clear q3
    try clear q30
    try clear q31
    try clear q672
    obtain ⟨kq, x120_36, rfl, HA, HJ36, HB⟩ := hcut
    cases kq with
    | zero => exact absurd HA.out (by simp [warderref03_Time.j4])
    | succ kj36 =>
     have H := HA.out
     clear HA
     simp only [warderref03_Time.j4] at H
     by_cases c49 : x120_36 = true
     ·subst c49
      have H1 : (some (0, 32)) = some (r1, r2) := by rw [if_pos rfl] at H; exact H
      clear H
      have H := H1
      clear H1
      simp only [Option.some.injEq, Prod.mk.injEq] at H
      obtain ⟨rfl, rfl⟩ := H
      go_wp2
      go_ret2
      exact ⟨by first | rfl | (simp [errW_none, errW_some] <;> rfl) | (simp [*, errW_none, errW_some] <;> rfl), by repeat (first | (with_reducible first | exact HB.out | apply below_alloc | apply pw_below_drewN | apply below_drew1) | exact HB.out)⟩
     ·replace c49 := Bool.eq_false_iff.mpr c49
      subst c49
      have H1 : ((warderref03_month.f x6_2 t667).bind fun t673 => (if t668 > t673 then (some (0, 32)) else ((warderref03_days.f x6_2).bind fun t674 => (warderref03_Time.l0 kj36 x6_2 t667 t669 t670 t671 (wrap64 ((wrap64 (t674 + t668)) - 1)) 1)))) = some (r1, r2) := by rw [if_neg (show ¬ (false = true) by decide)] at H; exact H
      clear H
      have H := H1
      clear H1
      replace H := Option.bind_eq_some_iff.mp H
      obtain ⟨t673, A500, H⟩ := H
      replace H : (if t668 > t673 then (some (0, 32)) else ((warderref03_days.f x6_2).bind fun t674 => (warderref03_Time.l0 kj36 x6_2 t667 t669 t670 t671 (wrap64 ((wrap64 (t674 + t668)) - 1)) 1))) = some (r1, r2) := H
      have A50 := Aside0.mk A500
      clear A500
      by_cases c51 : t668 > t673
      ·rw [if_pos c51] at H
       have c51b0 : decide (t673 < t668) = true := decide_eq_true c51
       clear c51
       simp only [Option.some.injEq, Prod.mk.injEq] at H
       obtain ⟨rfl, rfl⟩ := H
       go_wp2_with (first | ((with_reducible refine gate_callee (f := 92) rfl ?_); refine goesL_ (some 124) rfl rfl Tryz.func92 (by kernel_rfl) rfl #[.int .i64 x6_2, .int .i64 t667] rfl (by (try simp only [List.map_toArray, List.map_cons, List.map_nil]); first | done | rfl | (simp only [List.length_drop, List.length_take]; rfl)) ?_; (with_reducible refine (warderref03_month.calls x6_2 t667 t673 _ A50.out).mono ?_); rintro e w52 ⟨rfl, hb⟩; refine ⟨_, rfl, ?_⟩; have n0_ := Aside0.mk (below_step (by repeat (first | (with_reducible first | exact HB.out | apply below_alloc | apply pw_below_drewN | apply below_drew1) | exact HB.out)) hb); clear HB; have HB := n0_; clear n0_; (try clear hb); (try clear hb2); (try clear hk); (try clear hi)))
       go_ret2
       exact ⟨by first | rfl | (simp [errW_none, errW_some] <;> rfl) | (simp [*, errW_none, errW_some] <;> rfl), by repeat (first | (with_reducible first | exact HB.out | apply below_alloc | apply pw_below_drewN | apply below_drew1) | exact HB.out)⟩
      ·rw [if_neg c51] at H
       have c51b0 : decide (t673 < t668) = false := decide_eq_false c51
       clear c51
       replace H := Option.bind_eq_some_iff.mp H
       obtain ⟨t674, A530, H⟩ := H
       replace H : (warderref03_Time.l0 kj36 x6_2 t667 t669 t670 t671 (wrap64 ((wrap64 (t674 + t668)) - 1)) 1) = some (r1, r2) := H
       have A53 := Aside0.mk A530
       clear A530
       have H' := Aside0.mk H
       clear H
       go_wp2_with (first | ((with_reducible refine gate_callee (f := 92) rfl ?_); refine goesL_ (some 124) rfl rfl Tryz.func92 (by kernel_rfl) rfl #[.int .i64 x6_2, .int .i64 t667] rfl (by (try simp only [List.map_toArray, List.map_cons, List.map_nil]); first | done | rfl | (simp only [List.length_drop, List.length_take]; rfl)) ?_; (with_reducible refine (warderref03_month.calls x6_2 t667 t673 _ A50.out).mono ?_); rintro e w54 ⟨rfl, hb⟩; refine ⟨_, rfl, ?_⟩; have n0_ := Aside0.mk (below_step (by repeat (first | (with_reducible first | exact HB.out | apply below_alloc | apply pw_below_drewN | apply below_drew1) | exact HB.out)) hb); clear HB; have HB := n0_; clear n0_; (try clear hb); (try clear hb2); (try clear hk); (try clear hi)) | ((with_reducible refine gate_callee (f := 91) rfl ?_); refine goesL_ (some 127) rfl rfl Tryz.func91 (by kernel_rfl) rfl #[.int .i64 x6_2] rfl (by (try simp only [List.map_toArray, List.map_cons, List.map_nil]); first | done | rfl | (simp only [List.length_drop, List.length_take]; rfl)) ?_; (with_reducible refine (warderref03_days.calls x6_2 t674 _ A53.out).mono ?_); rintro e w' ⟨rfl, ⟨nd, rfl⟩⟩; refine ⟨_, rfl, ?_⟩))
       go_loopg [16, 17] kj36 (fun kq v16 v17 w' => ∃ (x16_3 : Int) (x17_3 : Int), v16 = .int .i64 x16_3 ∧ v17 = .int .i64 x17_3 ∧ Aside0 (warderref03_Time.l0 kq x6_2 t667 t669 t670 t671 x16_3 x17_3 = some (r1, r2)) ∧ Aside0 (kq ≤ kj36) ∧ Aside0 (Below w.heap.size w w'))
       case atStart => exact ⟨(wrap64 ((wrap64 (t674 + t668)) - 1)), (1), (by first | rfl | (simp; done) | (simp [*]; done)), (by first | rfl | (simp; done) | (simp [*]; done)), H', ⟨Nat.le_refl _⟩, ⟨by repeat (first | (with_reducible first | exact HB.out | apply below_alloc | apply pw_below_drewN | apply below_drew1) | exact HB.out)⟩⟩
       case round =>
        clear H'
        try clear c1
        try clear q1
        try clear c2
        try clear p2
        try clear q2
        try clear c3
        try clear q3
        try clear c4
        try clear c5
        try clear c5b0
        try clear c5b1
        try clear c6
        try clear p6
        try clear q6
        try clear hx6
        try clear qi6
        try clear c9
        try clear c9b0
        try clear c10
        try clear c11
        try clear c11b0
        try clear c11b1
        try clear c12
        try clear c12b0
        try clear c13
        try clear q13
        try clear c14
        try clear q14
        try clear c15
        try clear c15b0
        try clear c15b1
        try clear c16
        try clear c16b0
        try clear c17
        try clear q17
        try clear c18
        try clear q18
        try clear c20
        try clear c20b0
        try clear c20b1
        try clear c21
        try clear c24
        try clear c24b0
        try clear c24b1
        try clear c25
        try clear c25b0
        try clear c26
        try clear q26
        try clear c27
        try clear c27b0
        try clear c28
        try clear q28
        try clear c29
        try clear c29b0
        try clear c30
        try clear q30
        try clear c31
        try clear q31
        try clear c39
        try clear c39b0
        try clear c39b1
        try clear c40
        try clear c40b0
        try clear c40b1
        try clear c41
        try clear c41b0
        try clear c42
        try clear c42b0
        try clear c43
        try clear c43b0
        try clear c44
        try clear c44b0
        try clear c45
        try clear c45b0
        try clear c46
        try clear c46b0
        try clear c47
        try clear c47b0
        try clear c48
        try clear c48b0
        try clear c49
        try clear c51
        try clear c51b0
        try clear hx672_0
        try clear p2
        try clear p6
        try clear p672
        try clear q1
        try clear q13
        try clear q14
        try clear q17
        try clear q18
        try clear q2
        try clear q26
        try clear q28
        try clear q3
        try clear q30
        try clear q31
        try clear q6
        try clear q672
        obtain ⟨x16_3, x17_3, rfl, rfl, HA, HK3, HB⟩ := hrel
        cases gk with
        | zero => exact absurd HA.out (by simp [warderref03_Time.l0])
        | succ k3 =>
         have H := HA.out
         clear HA
         simp only [warderref03_Time.l0] at H
         by_cases c55 : x17_3 < t667
         ·rw [if_pos c55] at H
          have c55b0 : decide (x17_3 < t667) = true := decide_eq_true c55
          clear c55
          replace H := Option.bind_eq_some_iff.mp H
          obtain ⟨t675, A560, H⟩ := H
          replace H : (warderref03_Time.l0 k3 x6_2 t667 t669 t670 t671 (wrap64 (x16_3 + t675)) (wrap64 (x17_3 + 1))) = some (r1, r2) := H
          have A56 := Aside0.mk A560
          clear A560
          have H' := Aside0.mk H
          clear H
          go_wp2_with (first | ((with_reducible refine gate_callee (f := 92) rfl ?_); refine goesL_ (some 139) rfl rfl Tryz.func92 (by kernel_rfl) rfl #[.int .i64 x6_2, .int .i64 x17_3] rfl (by (try simp only [List.map_toArray, List.map_cons, List.map_nil]); first | done | rfl | (simp only [List.length_drop, List.length_take]; rfl)) ?_; (with_reducible refine (warderref03_month.calls x6_2 x17_3 t675 _ A56.out).mono ?_); rintro e w57 ⟨rfl, hb⟩; refine ⟨_, rfl, ?_⟩; have n0_ := Aside0.mk (below_step (by repeat (first | (with_reducible first | exact HB.out | apply below_alloc | apply pw_below_drewN | apply below_drew1) | exact HB.out)) hb); clear HB; have HB := n0_; clear n0_; (try clear hb); (try clear hb2); (try clear hk); (try clear hi)))
          go_roundg k3
          case measure => have := HJ2.out; have := HJ36.out; have := HK3.out; omega
          case rel => exact ⟨(wrap64 (x16_3 + t675)), (wrap64 (x17_3 + 1)), (by first | rfl | (simp; done) | (simp [*]; done)), (by first | rfl | (simp; done) | (simp [*]; done)), H', ⟨by have := HJ2.out; have := HJ36.out; have := HK3.out; omega⟩, ⟨by repeat (first | (with_reducible first | exact HB.out | apply below_alloc | apply pw_below_drewN | apply below_drew1) | exact HB.out)⟩⟩
         ·rw [if_neg c55] at H
          have c55b0 : decide (x17_3 < t667) = false := decide_eq_false c55
          clear c55
          simp only [Option.some.injEq, Prod.mk.injEq] at H
          obtain ⟨rfl, rfl⟩ := H
          go_wp2
          go_ret2
          exact ⟨by first | rfl | (simp [errW_none, errW_some] <;> rfl) | (simp [*, errW_none, errW_some] <;> rfl), by repeat (first | (with_reducible first | exact HB.out | apply below_alloc | apply pw_below_drewN | apply below_drew1) | exact HB.out)⟩
end Go.Proofs.YtncanijjnhkgbaaGreatDoor.PMsgsPut
namespace Go.Proofs.YtncanijjnhkgbaaGreatDoor.PMsgsPut
open Go.RowKit Go.Proofs.YtncanijjnhkgbaaGreatDoorW.PrintWords Go.Proofs.YtncanijjnhkgbaaGreatDoorW.PrintLast Go.Proofs.YtncanijjnhkgbaaGreatDoorW.PrintMore
attribute [local go_sem] max2_int min2_int max_two min_two max_three min_three max_four min_four
set_option linter.unusedVariables false
set_option linter.unusedSimpArgs false
mutual
noncomputable def warderref04_body.j0 : Nat → Int → List Int → Int → Int → Bool → Option (Int)
 | 0, _, _, _, _, _ => none
 | k + 1, x0, x1, x5, x6, x28 => if x28 = true then ((warderref03_Time.f k x0 x1).bind fun bt680 => (if bt680.2 = 0 then (some 0) else (some 43))) else (if x6 = 5 then (none) else (if x6 = 12 then (warderref04_body.j1 k x0 x1 x5 x6 (x6 == 12)) else (if x6 = 19 then (warderref04_body.j1 k x0 x1 x5 x6 (x6 == 19)) else (if x6 = 22 then (warderref04_body.j1 k x0 x1 x5 x6 (x6 == 22)) else (warderref04_body.j1 k x0 x1 x5 x6 (x6 == 27))))))
noncomputable def warderref04_body.j1 : Nat → Int → List Int → Int → Int → Bool → Option (Int)
 | 0, _, _, _, _, _ => none
 | k + 1, x0, x1, x5, x6, x42 => if x42 = true then ((warderref03_Right.f k x0 x1).bind fun t682 => (if t682 = true then (if x5 = 0 then (some 0) else (some 43)) else (if 43 = 0 then (some 0) else (some 43)))) else (if x6 = 3 then (none) else (if x5 = 0 then (some 0) else (some 43)))
end
noncomputable def warderref04_body.f (k : Nat) (a0 : Int) (l1 : List Int) : Option (Int) := if a0 = 1 then ((warderref02_Bool.f l1).bind fun bt676 => (if bt676.2 = 0 then (some 0) else (some 43))) else (if a0 = 2 then ((warderref02_Int.f k l1).bind fun bt678 => (if bt678.2 = 0 then (some 0) else (some 43))) else (if a0 = 6 then (none) else (if a0 = 23 then (warderref04_body.j0 k a0 l1 0 a0 (a0 == 23)) else (warderref04_body.j0 k a0 l1 0 a0 (a0 == 24)))))
set_option maxHeartbeats 8000000 in
set_option maxRecDepth 100000 in
theorem warderref04_body.calls (k : Nat) (a0 : Int) (A1 : Option Addr) (c1 : Nat) (l1 : List Int) (r : Int) (w : World) (hr1 : Kd.C (Kd.int .u8) w A1 l1.length l1) (hc1 : l1.length ≤ c1) (h : warderref04_body.f k a0 l1 = some r) :
  Calls Tryz.prog 68 #[.int .u8 a0, .slice A1 l1.length c1] w fun e w' => e = .returned (.int .i64 r) ∧ Below w.heap.size w w' := by
 have HR1 := Aside0.mk hr1
 have HC1 := Aside0.mk hc1
 clear hr1 hc1
 have HB := Aside0.mk (Below.refl w.heap.size w)
 have H : (if a0 = 1 then ((warderref02_Bool.f l1).bind fun bt676 => (if bt676.2 = 0 then (some 0) else (some 43))) else (if a0 = 2 then ((warderref02_Int.f k l1).bind fun bt678 => (if bt678.2 = 0 then (some 0) else (some 43))) else (if a0 = 6 then (none) else (if a0 = 23 then (warderref04_body.j0 k a0 l1 0 a0 (a0 == 23)) else (warderref04_body.j0 k a0 l1 0 a0 (a0 == 24)))))) = some r := h
 clear h
 by_cases c3 : a0 = 1
 ·rw [if_pos c3] at H
  have c3b0 : (a0 == 1) = true := beq_iff_eq.mpr c3
  have c3b1 : (a0 != 1) = false := bne_eq_false_iff_eq.mpr c3
  clear c3
  replace H := Option.bind_eq_some_iff.mp H
  obtain ⟨⟨t676, t677⟩, A40, H⟩ := H
  replace H : (if t677 = 0 then (some 0) else (some 43)) = some r := H
  have A4 := Aside0.mk A40
  clear A40
  by_cases c5 : t677 = 0
  ·rw [if_pos c5] at H
   have c5b0 : (t677 == 0) = true := beq_iff_eq.mpr c5
   have c5b1 : (t677 != 0) = false := bne_eq_false_iff_eq.mpr c5
   clear c5
   obtain rfl := Option.some.inj H
   go_enter Tryz.func68, Tryz.ntmps68
   go_wp2_with (first | ((with_reducible refine gate_callee (f := 94) rfl ?_); refine goesL_ (some 11) rfl rfl Tryz.func94 (by kernel_rfl) rfl #[.slice A1 l1.length c1] rfl (by (try simp only [List.map_toArray, List.map_cons, List.map_nil]); first | done | rfl | (simp only [List.length_drop, List.length_take]; rfl)) ?_; (with_reducible refine (warderref02_Bool.calls _ _ l1 t676 t677 _ ?side1 ?side2 A4.out).mono ?_); (case side1 => repeat (first | exact HR1.out | (with_reducible refine Kd.C_alloc ?_ _) | (with_reducible refine Kd.C_drewN ?_ _) | (with_reducible refine Kd.C_drew ?_))); (case side2 => exact HC1.out); rintro e w' ⟨rfl, ⟨nd, rfl⟩⟩; refine ⟨_, rfl, ?_⟩))
   go_ret
   exact ⟨by first | rfl | exact absurd trivial (by assumption) | exact absurd (by assumption : (43 == 0) = true) (by decide) | (simp [errW_none, errW_some] <;> rfl) | (simp [*, errW_none, errW_some] <;> rfl), by repeat (first | (with_reducible first | exact HB.out | apply below_alloc | apply pw_below_drewN | apply below_drew1) | exact HB.out)⟩
  ·rw [if_neg c5] at H
   have c5b0 : (t677 == 0) = false := beq_eq_false_iff_ne.mpr c5
   have c5b1 : (t677 != 0) = true := bne_iff_ne.mpr c5
   obtain rfl := Option.some.inj H
   go_enter Tryz.func68, Tryz.ntmps68
   go_wp2_with (first | ((with_reducible refine gate_callee (f := 94) rfl ?_); refine goesL_ (some 11) rfl rfl Tryz.func94 (by kernel_rfl) rfl #[.slice A1 l1.length c1] rfl (by (try simp only [List.map_toArray, List.map_cons, List.map_nil]); first | done | rfl | (simp only [List.length_drop, List.length_take]; rfl)) ?_; (with_reducible refine (warderref02_Bool.calls _ _ l1 t676 t677 _ ?side1 ?side2 A4.out).mono ?_); (case side1 => repeat (first | exact HR1.out | (with_reducible refine Kd.C_alloc ?_ _) | (with_reducible refine Kd.C_drewN ?_ _) | (with_reducible refine Kd.C_drew ?_))); (case side2 => exact HC1.out); rintro e w' ⟨rfl, ⟨nd, rfl⟩⟩; refine ⟨_, rfl, ?_⟩))
   go_ret
   exact ⟨by first | rfl | exact absurd trivial (by assumption) | exact absurd (by assumption : (43 == 0) = true) (by decide) | (simp [errW_none, errW_some] <;> rfl) | (simp [*, errW_none, errW_some] <;> rfl), by repeat (first | (with_reducible first | exact HB.out | apply below_alloc | apply pw_below_drewN | apply below_drew1) | exact HB.out)⟩
 ·rw [if_neg c3] at H
  have c3b0 : (a0 == 1) = false := beq_eq_false_iff_ne.mpr c3
  have c3b1 : (a0 != 1) = true := bne_iff_ne.mpr c3
  by_cases c6 : a0 = 2
  ·rw [if_pos c6] at H
   have c6b0 : (a0 == 2) = true := beq_iff_eq.mpr c6
   have c6b1 : (a0 != 2) = false := bne_eq_false_iff_eq.mpr c6
   clear c6
   replace H := Option.bind_eq_some_iff.mp H
   obtain ⟨⟨t678, t679⟩, A70, H⟩ := H
   replace H : (if t679 = 0 then (some 0) else (some 43)) = some r := H
   have A7 := Aside0.mk A70
   clear A70
   by_cases c8 : t679 = 0
   ·rw [if_pos c8] at H
    have c8b0 : (t679 == 0) = true := beq_iff_eq.mpr c8
    have c8b1 : (t679 != 0) = false := bne_eq_false_iff_eq.mpr c8
    clear c8
    obtain rfl := Option.some.inj H
    go_enter Tryz.func68, Tryz.ntmps68
    go_wp2_with (first | ((with_reducible refine gate_callee (f := 95) rfl ?_); refine goesL_ (some 18) rfl rfl Tryz.func95 (by kernel_rfl) rfl #[.slice A1 l1.length c1] rfl (by (try simp only [List.map_toArray, List.map_cons, List.map_nil]); first | done | rfl | (simp only [List.length_drop, List.length_take]; rfl)) ?_; (with_reducible refine (warderref02_Int.calls k _ _ l1 t678 t679 _ ?side1 ?side2 A7.out).mono ?_); (case side1 => repeat (first | exact HR1.out | (with_reducible refine Kd.C_alloc ?_ _) | (with_reducible refine Kd.C_drewN ?_ _) | (with_reducible refine Kd.C_drew ?_))); (case side2 => exact HC1.out); rintro e w' ⟨rfl, ⟨nd, rfl⟩⟩; refine ⟨_, rfl, ?_⟩))
    go_ret
    exact ⟨by first | rfl | exact absurd trivial (by assumption) | exact absurd (by assumption : (43 == 0) = true) (by decide) | (simp [errW_none, errW_some] <;> rfl) | (simp [*, errW_none, errW_some] <;> rfl), by repeat (first | (with_reducible first | exact HB.out | apply below_alloc | apply pw_below_drewN | apply below_drew1) | exact HB.out)⟩
   ·rw [if_neg c8] at H
    have c8b0 : (t679 == 0) = false := beq_eq_false_iff_ne.mpr c8
    have c8b1 : (t679 != 0) = true := bne_iff_ne.mpr c8
    obtain rfl := Option.some.inj H
    go_enter Tryz.func68, Tryz.ntmps68
    go_wp2_with (first | ((with_reducible refine gate_callee (f := 95) rfl ?_); refine goesL_ (some 18) rfl rfl Tryz.func95 (by kernel_rfl) rfl #[.slice A1 l1.length c1] rfl (by (try simp only [List.map_toArray, List.map_cons, List.map_nil]); first | done | rfl | (simp only [List.length_drop, List.length_take]; rfl)) ?_; (with_reducible refine (warderref02_Int.calls k _ _ l1 t678 t679 _ ?side1 ?side2 A7.out).mono ?_); (case side1 => repeat (first | exact HR1.out | (with_reducible refine Kd.C_alloc ?_ _) | (with_reducible refine Kd.C_drewN ?_ _) | (with_reducible refine Kd.C_drew ?_))); (case side2 => exact HC1.out); rintro e w' ⟨rfl, ⟨nd, rfl⟩⟩; refine ⟨_, rfl, ?_⟩))
    go_ret
    exact ⟨by first | rfl | exact absurd trivial (by assumption) | exact absurd (by assumption : (43 == 0) = true) (by decide) | (simp [errW_none, errW_some] <;> rfl) | (simp [*, errW_none, errW_some] <;> rfl), by repeat (first | (with_reducible first | exact HB.out | apply below_alloc | apply pw_below_drewN | apply below_drew1) | exact HB.out)⟩
  ·rw [if_neg c6] at H
   have c6b0 : (a0 == 2) = false := beq_eq_false_iff_ne.mpr c6
   have c6b1 : (a0 != 2) = true := bne_iff_ne.mpr c6
   by_cases c9 : a0 = 6
   ·rw [if_pos c9] at H
    exact absurd H (by simp)
   ·rw [if_neg c9] at H
    have c9b0 : (a0 == 6) = false := beq_eq_false_iff_ne.mpr c9
    have c9b1 : (a0 != 6) = true := bne_iff_ne.mpr c9
    have HC10 := Aside0.mk H
    clear H
    go_enter Tryz.func68, Tryz.ntmps68
    go_upto_if 28 with (fail)
    go_cut [28] (fun v28 wc => ∃ (kq : Nat) (x28_9 : Bool), v28 = .bool x28_9 ∧ Aside0 (warderref04_body.j0 kq a0 l1 0 a0 x28_9 = some r) ∧ Aside0 (kq ≤ k) ∧ Aside0 (Below w.heap.size w wc))
    case first =>
     have H := HC10.out
     clear HC10
     by_cases c11 : a0 = 23
     ·rw [if_pos c11] at H
      have c11b0 : (a0 == 23) = true := beq_iff_eq.mpr c11
      have c11b1 : (a0 != 23) = false := bne_eq_false_iff_eq.mpr c11
      clear c11
      (first | rw [c11b0] | (simp only [i64_w, i32_w]; rw [c11b0]) | skip)
      have H' := Aside0.mk H
      clear H
      go_wp2
      go_meet
      case rel => exact ⟨_, ((a0 == 23)), (by first | rfl | (simp; done) | (simp [*]; done)), H', ⟨by first | omega | exact Nat.le_refl _⟩, ⟨by repeat (first | (with_reducible first | exact HB.out | apply below_alloc | apply pw_below_drewN | apply below_drew1) | exact HB.out)⟩⟩
     ·rw [if_neg c11] at H
      have c11b0 : (a0 == 23) = false := beq_eq_false_iff_ne.mpr c11
      have c11b1 : (a0 != 23) = true := bne_iff_ne.mpr c11
      (first | rw [c11b0] | (simp only [i64_w, i32_w]; rw [c11b0]) | skip)
      have H' := Aside0.mk H
      clear H
      go_wp2
      go_meet
      case rel => exact ⟨_, ((a0 == 24)), (by first | rfl | (simp; done) | (simp [*]; done)), H', ⟨by first | omega | exact Nat.le_refl _⟩, ⟨by repeat (first | (with_reducible first | exact HB.out | apply below_alloc | apply pw_below_drewN | apply below_drew1) | exact HB.out)⟩⟩
    case rest =>
     clear HC10
     try clear c1
     try clear p2
     try clear c3
     try clear c3b0
     try clear c3b1
     try clear c5
     try clear c5b0
     try clear c5b1
     try clear c6
     try clear c6b0
     try clear c6b1
     try clear c8
     try clear c8b0
     try clear c8b1
     try clear c9
     try clear c9b0
     try clear c9b1
     try clear c11
     try clear c11b0
     try clear c11b1
     obtain ⟨kq, x28_9, rfl, HA, HJ9, HB⟩ := hcut
     cases kq with
     | zero => exact absurd HA.out (by simp [warderref04_body.j0])
     | succ kj9 =>
      have H := HA.out
      clear HA
      simp only [warderref04_body.j0] at H
      by_cases c12 : x28_9 = true
      ·subst c12
       have H1 : ((warderref03_Time.f kj9 a0 l1).bind fun bt680 => (if bt680.2 = 0 then (some 0) else (some 43))) = some r := by rw [if_pos rfl] at H; exact H
       clear H
       have H := H1
       clear H1
       replace H := Option.bind_eq_some_iff.mp H
       obtain ⟨⟨t680, t681⟩, A130, H⟩ := H
       replace H : (if t681 = 0 then (some 0) else (some 43)) = some r := H
       have A13 := Aside0.mk A130
       clear A130
       by_cases c14 : t681 = 0
       ·rw [if_pos c14] at H
        have c14b0 : (t681 == 0) = true := beq_iff_eq.mpr c14
        have c14b1 : (t681 != 0) = false := bne_eq_false_iff_eq.mpr c14
        clear c14
        obtain rfl := Option.some.inj H
        go_wp2_with (first | ((with_reducible refine gate_callee (f := 97) rfl ?_); refine goesL_ (some 34) rfl rfl Tryz.func97 (by kernel_rfl) rfl #[.int .u8 a0, .slice A1 l1.length c1] rfl (by (try simp only [List.map_toArray, List.map_cons, List.map_nil]); first | done | rfl | (simp only [List.length_drop, List.length_take]; rfl)) ?_; (with_reducible refine (warderref03_Time.calls kj9 a0 (fun k_ => k_ < w.heap.size) _ _ l1 t680 t681 _ ?side1 A13.out).mono ?_); (case side1 => exact Kd.V_mk HC1.out (Kd.F_below (Kd.C_F (Kd.heap_int .u8) HR1.out) (by repeat (first | (with_reducible first | exact HB.out | apply below_alloc | apply pw_below_drewN | apply below_drew1) | exact HB.out)))); rintro e w15 ⟨rfl, hb⟩; refine ⟨_, rfl, ?_⟩; have n0_ := Aside0.mk (below_step (by repeat (first | (with_reducible first | exact HB.out | apply below_alloc | apply pw_below_drewN | apply below_drew1) | exact HB.out)) hb); clear HB; have HB := n0_; clear n0_; (try clear hb); (try clear hb2); (try clear hk); (try clear hi)))
        go_ret
        exact ⟨by first | rfl | exact absurd trivial (by assumption) | exact absurd (by assumption : (43 == 0) = true) (by decide) | (simp [errW_none, errW_some] <;> rfl) | (simp [*, errW_none, errW_some] <;> rfl), by repeat (first | (with_reducible first | exact HB.out | apply below_alloc | apply pw_below_drewN | apply below_drew1) | exact HB.out)⟩
       ·rw [if_neg c14] at H
        have c14b0 : (t681 == 0) = false := beq_eq_false_iff_ne.mpr c14
        have c14b1 : (t681 != 0) = true := bne_iff_ne.mpr c14
        obtain rfl := Option.some.inj H
        go_wp2_with (first | ((with_reducible refine gate_callee (f := 97) rfl ?_); refine goesL_ (some 34) rfl rfl Tryz.func97 (by kernel_rfl) rfl #[.int .u8 a0, .slice A1 l1.length c1] rfl (by (try simp only [List.map_toArray, List.map_cons, List.map_nil]); first | done | rfl | (simp only [List.length_drop, List.length_take]; rfl)) ?_; (with_reducible refine (warderref03_Time.calls kj9 a0 (fun k_ => k_ < w.heap.size) _ _ l1 t680 t681 _ ?side1 A13.out).mono ?_); (case side1 => exact Kd.V_mk HC1.out (Kd.F_below (Kd.C_F (Kd.heap_int .u8) HR1.out) (by repeat (first | (with_reducible first | exact HB.out | apply below_alloc | apply pw_below_drewN | apply below_drew1) | exact HB.out)))); rintro e w16 ⟨rfl, hb⟩; refine ⟨_, rfl, ?_⟩; have n0_ := Aside0.mk (below_step (by repeat (first | (with_reducible first | exact HB.out | apply below_alloc | apply pw_below_drewN | apply below_drew1) | exact HB.out)) hb); clear HB; have HB := n0_; clear n0_; (try clear hb); (try clear hb2); (try clear hk); (try clear hi)))
        go_ret
        exact ⟨by first | rfl | exact absurd trivial (by assumption) | exact absurd (by assumption : (43 == 0) = true) (by decide) | (simp [errW_none, errW_some] <;> rfl) | (simp [*, errW_none, errW_some] <;> rfl), by repeat (first | (with_reducible first | exact HB.out | apply below_alloc | apply pw_below_drewN | apply below_drew1) | exact HB.out)⟩
      ·replace c12 := Bool.eq_false_iff.mpr c12
       subst c12
       have H1 : (if a0 = 5 then (none) else (if a0 = 12 then (warderref04_body.j1 kj9 a0 l1 0 a0 (a0 == 12)) else (if a0 = 19 then (warderref04_body.j1 kj9 a0 l1 0 a0 (a0 == 19)) else (if a0 = 22 then (warderref04_body.j1 kj9 a0 l1 0 a0 (a0 == 22)) else (warderref04_body.j1 kj9 a0 l1 0 a0 (a0 == 27)))))) = some r := by rw [if_neg (show ¬ (false = true) by decide)] at H; exact H
       clear H
       have H := H1
       clear H1
       by_cases c17 : a0 = 5
       ·rw [if_pos c17] at H
        exact absurd H (by simp)
       ·rw [if_neg c17] at H
        have c17b0 : (a0 == 5) = false := beq_eq_false_iff_ne.mpr c17
        have c17b1 : (a0 != 5) = true := bne_iff_ne.mpr c17
        have HC18 := Aside0.mk H
        clear H
        go_upto_if 42 with (fail)
        go_cut [42] (fun v42 wc => ∃ (kq : Nat) (x42_17 : Bool), v42 = .bool x42_17 ∧ Aside0 (warderref04_body.j1 kq a0 l1 0 a0 x42_17 = some r) ∧ Aside0 (kq ≤ kj9) ∧ Aside0 (Below w.heap.size w wc))
        case first =>
         have H := HC18.out
         clear HC18
         by_cases c19 : a0 = 12
         ·rw [if_pos c19] at H
          have c19b0 : (a0 == 12) = true := beq_iff_eq.mpr c19
          have c19b1 : (a0 != 12) = false := bne_eq_false_iff_eq.mpr c19
          clear c19
          (first | rw [c19b0] | (simp only [i64_w, i32_w]; rw [c19b0]) | skip)
          have H' := Aside0.mk H
          clear H
          go_wp2
          go_meet
          case rel => exact ⟨_, ((a0 == 12)), (by first | rfl | (simp; done) | (simp [*]; done)), H', ⟨by have := HJ9.out; first | omega | exact Nat.le_refl _⟩, ⟨by repeat (first | (with_reducible first | exact HB.out | apply below_alloc | apply pw_below_drewN | apply below_drew1) | exact HB.out)⟩⟩
         ·rw [if_neg c19] at H
          have c19b0 : (a0 == 12) = false := beq_eq_false_iff_ne.mpr c19
          have c19b1 : (a0 != 12) = true := bne_iff_ne.mpr c19
          (first | rw [c19b0] | (simp only [i64_w, i32_w]; rw [c19b0]) | skip)
          by_cases c20 : a0 = 19
          ·rw [if_pos c20] at H
           have c20b0 : (a0 == 19) = true := beq_iff_eq.mpr c20
           have c20b1 : (a0 != 19) = false := bne_eq_false_iff_eq.mpr c20
           clear c20
           have H' := Aside0.mk H
           clear H
           go_wp2
           go_meet
           case rel => exact ⟨_, ((a0 == 19)), (by first | rfl | (simp; done) | (simp [*]; done)), H', ⟨by have := HJ9.out; first | omega | exact Nat.le_refl _⟩, ⟨by repeat (first | (with_reducible first | exact HB.out | apply below_alloc | apply pw_below_drewN | apply below_drew1) | exact HB.out)⟩⟩
          ·rw [if_neg c20] at H
           have c20b0 : (a0 == 19) = false := beq_eq_false_iff_ne.mpr c20
           have c20b1 : (a0 != 19) = true := bne_iff_ne.mpr c20
           by_cases c21 : a0 = 22
           ·rw [if_pos c21] at H
            have c21b0 : (a0 == 22) = true := beq_iff_eq.mpr c21
            have c21b1 : (a0 != 22) = false := bne_eq_false_iff_eq.mpr c21
            clear c21
            have H' := Aside0.mk H
            clear H
            go_wp2
            go_meet
            case rel => exact ⟨_, ((a0 == 22)), (by first | rfl | (simp; done) | (simp [*]; done)), H', ⟨by have := HJ9.out; first | omega | exact Nat.le_refl _⟩, ⟨by repeat (first | (with_reducible first | exact HB.out | apply below_alloc | apply pw_below_drewN | apply below_drew1) | exact HB.out)⟩⟩
           ·rw [if_neg c21] at H
            have c21b0 : (a0 == 22) = false := beq_eq_false_iff_ne.mpr c21
            have c21b1 : (a0 != 22) = true := bne_iff_ne.mpr c21
            have H' := Aside0.mk H
            clear H
            go_wp2
            go_meet
            case rel => exact ⟨_, ((a0 == 27)), (by first | rfl | (simp; done) | (simp [*]; done)), H', ⟨by have := HJ9.out; first | omega | exact Nat.le_refl _⟩, ⟨by repeat (first | (with_reducible first | exact HB.out | apply below_alloc | apply pw_below_drewN | apply below_drew1) | exact HB.out)⟩⟩
        case rest =>
         clear HC18
         try clear c1
         try clear c2
         try clear p2
         try clear c3
         try clear c3b0
         try clear c3b1
         try clear c5
         try clear c5b0
         try clear c5b1
         try clear c6
         try clear c6b0
         try clear c6b1
         try clear c8
         try clear c8b0
         try clear c8b1
         try clear c9
         try clear c9b0
         try clear c9b1
         try clear c11
         try clear c11b0
         try clear c11b1
         try clear c12
         try clear c14
         try clear c14b0
         try clear c14b1
         try clear c17
         try clear c17b0
         try clear c17b1
         try clear c19
         try clear c19b0
         try clear c19b1
         try clear c20
         try clear c20b0
         try clear c20b1
         try clear c21
         try clear c21b0
         try clear c21b1
         try clear p2
         obtain ⟨kq, x42_17, rfl, HA, HJ17, HB⟩ := hcut
         cases kq with
         | zero => exact absurd HA.out (by simp [warderref04_body.j1])
         | succ kj17 =>
          have H := HA.out
          clear HA
          simp only [warderref04_body.j1] at H
          by_cases c22 : x42_17 = true
          ·subst c22
           have H1 : ((warderref03_Right.f kj17 a0 l1).bind fun t682 => (if t682 = true then (if 0 = 0 then (some 0) else (some 43)) else (if 43 = 0 then (some 0) else (some 43)))) = some r := by rw [if_pos rfl] at H; exact H
           clear H
           have H := H1
           clear H1
           replace H := Option.bind_eq_some_iff.mp H
           obtain ⟨t682, A230, H⟩ := H
           replace H : (if t682 = true then (if 0 = 0 then (some 0) else (some 43)) else (if 43 = 0 then (some 0) else (some 43))) = some r := H
           have A23 := Aside0.mk A230
           clear A230
           by_cases c24 : t682 = true
           ·subst c24
            have H1 : (if 0 = 0 then (some 0) else (some 43)) = some r := by rw [if_pos rfl] at H; exact H
            clear H
            have H := H1
            clear H1
            by_cases c25 : 0 = 0
            ·rw [if_pos c25] at H
             have c25b0 : (0 == 0) = true := beq_iff_eq.mpr c25
             have c25b1 : (0 != 0) = false := bne_eq_false_iff_eq.mpr c25
             clear c25
             obtain rfl := Option.some.inj H
             go_wp2_with (first | ((with_reducible refine gate_callee (f := 90) rfl ?_); refine goesL_ (some 49) rfl rfl Tryz.func90 (by kernel_rfl) rfl #[.int .u8 a0, .slice A1 l1.length c1] rfl (by (try simp only [List.map_toArray, List.map_cons, List.map_nil]); first | done | rfl | (simp only [List.length_drop, List.length_take]; rfl)) ?_; (with_reducible refine (warderref03_Right.calls kj17 a0 _ _ l1 true _ ?side1 ?side2 A23.out).mono ?_); (case side1 => repeat (first | exact (Kd.C_below HR1.out HB.out) | (with_reducible refine Kd.C_alloc ?_ _) | (with_reducible refine Kd.C_drewN ?_ _) | (with_reducible refine Kd.C_drew ?_))); (case side2 => exact HC1.out); rintro e w' ⟨rfl, ⟨nd, rfl⟩⟩; refine ⟨_, rfl, ?_⟩))
             go_ret
             exact ⟨by first | rfl | exact absurd trivial (by assumption) | exact absurd (by assumption : (43 == 0) = true) (by decide) | (simp [errW_none, errW_some] <;> rfl) | (simp [*, errW_none, errW_some] <;> rfl), by repeat (first | (with_reducible first | exact HB.out | apply below_alloc | apply pw_below_drewN | apply below_drew1) | exact HB.out)⟩
            ·rw [if_neg c25] at H
             have c25b0 : (0 == 0) = false := beq_eq_false_iff_ne.mpr c25
             have c25b1 : (0 != 0) = true := bne_iff_ne.mpr c25
             obtain rfl := Option.some.inj H
             go_wp2_with (first | ((with_reducible refine gate_callee (f := 90) rfl ?_); refine goesL_ (some 49) rfl rfl Tryz.func90 (by kernel_rfl) rfl #[.int .u8 a0, .slice A1 l1.length c1] rfl (by (try simp only [List.map_toArray, List.map_cons, List.map_nil]); first | done | rfl | (simp only [List.length_drop, List.length_take]; rfl)) ?_; (with_reducible refine (warderref03_Right.calls kj17 a0 _ _ l1 true _ ?side1 ?side2 A23.out).mono ?_); (case side1 => repeat (first | exact (Kd.C_below HR1.out HB.out) | (with_reducible refine Kd.C_alloc ?_ _) | (with_reducible refine Kd.C_drewN ?_ _) | (with_reducible refine Kd.C_drew ?_))); (case side2 => exact HC1.out); rintro e w' ⟨rfl, ⟨nd, rfl⟩⟩; refine ⟨_, rfl, ?_⟩))
             go_ret
             exact ⟨by first | rfl | exact absurd trivial (by assumption) | exact absurd (by assumption : (43 == 0) = true) (by decide) | (simp [errW_none, errW_some] <;> rfl) | (simp [*, errW_none, errW_some] <;> rfl), by repeat (first | (with_reducible first | exact HB.out | apply below_alloc | apply pw_below_drewN | apply below_drew1) | exact HB.out)⟩
           ·replace c24 := Bool.eq_false_iff.mpr c24
            subst c24
            have H1 : (if 43 = 0 then (some 0) else (some 43)) = some r := by rw [if_neg (show ¬ (false = true) by decide)] at H; exact H
            clear H
            have H := H1
            clear H1
            by_cases c26 : 43 = 0
            ·rw [if_pos c26] at H
             have c26b0 : (43 == 0) = true := beq_iff_eq.mpr c26
             have c26b1 : (43 != 0) = false := bne_eq_false_iff_eq.mpr c26
             clear c26
             obtain rfl := Option.some.inj H
             go_wp2_with (first | ((with_reducible refine gate_callee (f := 90) rfl ?_); refine goesL_ (some 49) rfl rfl Tryz.func90 (by kernel_rfl) rfl #[.int .u8 a0, .slice A1 l1.length c1] rfl (by (try simp only [List.map_toArray, List.map_cons, List.map_nil]); first | done | rfl | (simp only [List.length_drop, List.length_take]; rfl)) ?_; (with_reducible refine (warderref03_Right.calls kj17 a0 _ _ l1 false _ ?side1 ?side2 A23.out).mono ?_); (case side1 => repeat (first | exact (Kd.C_below HR1.out HB.out) | (with_reducible refine Kd.C_alloc ?_ _) | (with_reducible refine Kd.C_drewN ?_ _) | (with_reducible refine Kd.C_drew ?_))); (case side2 => exact HC1.out); rintro e w' ⟨rfl, ⟨nd, rfl⟩⟩; refine ⟨_, rfl, ?_⟩))
             go_ret
             exact ⟨by first | rfl | exact absurd trivial (by assumption) | exact absurd (by assumption : (43 == 0) = true) (by decide) | (simp [errW_none, errW_some] <;> rfl) | (simp [*, errW_none, errW_some] <;> rfl), by repeat (first | (with_reducible first | exact HB.out | apply below_alloc | apply pw_below_drewN | apply below_drew1) | exact HB.out)⟩
            ·rw [if_neg c26] at H
             have c26b0 : (43 == 0) = false := beq_eq_false_iff_ne.mpr c26
             have c26b1 : (43 != 0) = true := bne_iff_ne.mpr c26
             obtain rfl := Option.some.inj H
             go_wp2_with (first | ((with_reducible refine gate_callee (f := 90) rfl ?_); refine goesL_ (some 49) rfl rfl Tryz.func90 (by kernel_rfl) rfl #[.int .u8 a0, .slice A1 l1.length c1] rfl (by (try simp only [List.map_toArray, List.map_cons, List.map_nil]); first | done | rfl | (simp only [List.length_drop, List.length_take]; rfl)) ?_; (with_reducible refine (warderref03_Right.calls kj17 a0 _ _ l1 false _ ?side1 ?side2 A23.out).mono ?_); (case side1 => repeat (first | exact (Kd.C_below HR1.out HB.out) | (with_reducible refine Kd.C_alloc ?_ _) | (with_reducible refine Kd.C_drewN ?_ _) | (with_reducible refine Kd.C_drew ?_))); (case side2 => exact HC1.out); rintro e w' ⟨rfl, ⟨nd, rfl⟩⟩; refine ⟨_, rfl, ?_⟩))
             go_ret
             exact ⟨by first | rfl | exact absurd trivial (by assumption) | exact absurd (by assumption : (43 == 0) = true) (by decide) | (simp [errW_none, errW_some] <;> rfl) | (simp [*, errW_none, errW_some] <;> rfl), by repeat (first | (with_reducible first | exact HB.out | apply below_alloc | apply pw_below_drewN | apply below_drew1) | exact HB.out)⟩
          ·replace c22 := Bool.eq_false_iff.mpr c22
           subst c22
           have H1 : (if a0 = 3 then (none) else (if 0 = 0 then (some 0) else (some 43))) = some r := by rw [if_neg (show ¬ (false = true) by decide)] at H; exact H
           clear H
           have H := H1
           clear H1
           by_cases c27 : a0 = 3
           ·rw [if_pos c27] at H
            exact absurd H (by simp)
           ·rw [if_neg c27] at H
            have c27b0 : (a0 == 3) = false := beq_eq_false_iff_ne.mpr c27
            have c27b1 : (a0 != 3) = true := bne_iff_ne.mpr c27
            by_cases c28 : 0 = 0
            ·rw [if_pos c28] at H
             have c28b0 : (0 == 0) = true := beq_iff_eq.mpr c28
             have c28b1 : (0 != 0) = false := bne_eq_false_iff_eq.mpr c28
             clear c28
             obtain rfl := Option.some.inj H
             go_wp2
             go_ret
             exact ⟨by first | rfl | exact absurd trivial (by assumption) | exact absurd (by assumption : (43 == 0) = true) (by decide) | (simp [errW_none, errW_some] <;> rfl) | (simp [*, errW_none, errW_some] <;> rfl), by repeat (first | (with_reducible first | exact HB.out | apply below_alloc | apply pw_below_drewN | apply below_drew1) | exact HB.out)⟩
            ·rw [if_neg c28] at H
             have c28b0 : (0 == 0) = false := beq_eq_false_iff_ne.mpr c28
             have c28b1 : (0 != 0) = true := bne_iff_ne.mpr c28
             obtain rfl := Option.some.inj H
             go_wp2
             go_ret
             exact ⟨by first | rfl | exact absurd trivial (by assumption) | exact absurd (by assumption : (43 == 0) = true) (by decide) | (simp [errW_none, errW_some] <;> rfl) | (simp [*, errW_none, errW_some] <;> rfl), by repeat (first | (with_reducible first | exact HB.out | apply below_alloc | apply pw_below_drewN | apply below_drew1) | exact HB.out)⟩
noncomputable def warderref01_Put.f (a0 : Int) (l1 : List Int) : Option (List Int × Int) := if (Go.bits .and .u8 a0 31) = 31 then (some (([] : List Int), 11)) else (if (l1.length : Int) > 65535 then (some (([] : List Int), 2)) else ((some (([a0] : List Int) : List Int)).bind fun y683 => (if (l1.length : Int) < 128 then (if y683.length < 140737488355328 then ((some (y683 ++ [((l1.length : Int)) % 256] : List Int)).bind fun y686 => (if y686.length + l1.length < 140737488355328 then (some ((y686 ++ l1), 0)) else (none))) else (none)) else (if (l1.length : Int) < 256 then ((some (([129, ((l1.length : Int)) % 256] : List Int) : List Int)).bind fun y692 => (if y683.length + y692.length < 140737488355328 then ((some (y683 ++ y692 : List Int)).bind fun y695 => (if y695.length + l1.length < 140737488355328 then (some ((y695 ++ l1), 0)) else (none))) else (none))) else ((some (([130, ((l1.length : Int) / 256) % 256, ((l1.length : Int)) % 256] : List Int) : List Int)).bind fun y701 => (if y683.length + y701.length < 140737488355328 then ((some (y683 ++ y701 : List Int)).bind fun y704 => (if y704.length + l1.length < 140737488355328 then (some ((y704 ++ l1), 0)) else (none))) else (none)))))))
set_option maxHeartbeats 8000000 in
set_option maxRecDepth 100000 in
theorem warderref01_Put.calls (a0 : Int) (A1 : Option Addr) (c1 : Nat) (l1 : List Int) (r1 : List Int) (r2 : Int) (w : World) (hr1 : Kd.C (Kd.int .u8) w A1 l1.length l1) (hc1 : l1.length ≤ c1) (h : warderref01_Put.f a0 l1 = some (r1, r2)) :
  Calls Tryz.prog 69 #[.int .u8 a0, .slice A1 l1.length c1] w fun e w' => ∃ v0_ : Value, e = .returned (.tuple #[v0_, .int .i64 r2]) ∧ Kd.R (Kd.int .u8) 5 w' w.heap.size (fun _ => True) v0_ r1 ∧ Below w.heap.size w w' := by
 have HR1 := Aside0.mk hr1
 have HC1 := Aside0.mk hc1
 clear hr1 hc1
 have HB := Aside0.mk (Below.refl w.heap.size w)
 have H : (if (Go.bits .and .u8 a0 31) = 31 then (some (([] : List Int), 11)) else (if (l1.length : Int) > 65535 then (some (([] : List Int), 2)) else ((some (([a0] : List Int) : List Int)).bind fun y683 => (if (l1.length : Int) < 128 then (if y683.length < 140737488355328 then ((some (y683 ++ [((l1.length : Int)) % 256] : List Int)).bind fun y686 => (if y686.length + l1.length < 140737488355328 then (some ((y686 ++ l1), 0)) else (none))) else (none)) else (if (l1.length : Int) < 256 then ((some (([129, ((l1.length : Int)) % 256] : List Int) : List Int)).bind fun y692 => (if y683.length + y692.length < 140737488355328 then ((some (y683 ++ y692 : List Int)).bind fun y695 => (if y695.length + l1.length < 140737488355328 then (some ((y695 ++ l1), 0)) else (none))) else (none))) else ((some (([130, ((l1.length : Int) / 256) % 256, ((l1.length : Int)) % 256] : List Int) : List Int)).bind fun y701 => (if y683.length + y701.length < 140737488355328 then ((some (y683 ++ y701 : List Int)).bind fun y704 => (if y704.length + l1.length < 140737488355328 then (some ((y704 ++ l1), 0)) else (none))) else (none)))))))) = some (r1, r2) := h
 clear h
 by_cases c3 : (Go.bits .and .u8 a0 31) = 31
 ·rw [if_pos c3] at H
  have c3b0 : ((Go.bits .and .u8 a0 31) == 31) = true := beq_iff_eq.mpr c3
  have c3b1 : ((Go.bits .and .u8 a0 31) != 31) = false := bne_eq_false_iff_eq.mpr c3
  clear c3
  simp only [Option.some.injEq, Prod.mk.injEq] at H
  obtain ⟨rfl, rfl⟩ := H
  go_enter Tryz.func69, Tryz.ntmps69
  go_wp2
  go_ret2
  exact ⟨_, by first | rfl | (simp [errW_none, errW_some] <;> rfl) | (simp [*, errW_none, errW_some] <;> rfl), by first | exact Kd.R_nil _ _ _ _ _ | exact Kd.N_nil _ _ _ _ _ | exact Kd.V_nil _ _ _ _ _ | exact Kd.Q_nil _ _ _ _ _ | exact Kd.S_nil _ _ _ _ _, by repeat (first | (with_reducible first | exact HB.out | apply below_alloc | apply pw_below_drewN | apply below_drew1) | exact HB.out)⟩
 ·rw [if_neg c3] at H
  have c3b0 : ((Go.bits .and .u8 a0 31) == 31) = false := beq_eq_false_iff_ne.mpr c3
  have c3b1 : ((Go.bits .and .u8 a0 31) != 31) = true := bne_iff_ne.mpr c3
  by_cases c4 : (l1.length : Int) > 65535
  ·rw [if_pos c4] at H
   have c4b0 : decide (65535 < (l1.length : Int)) = true := decide_eq_true c4
   have c4b1 : decide (65535 < l1.length) = true := decide_eq_true (by omega)
   clear c4
   simp only [Option.some.injEq, Prod.mk.injEq] at H
   obtain ⟨rfl, rfl⟩ := H
   go_enter Tryz.func69, Tryz.ntmps69
   go_wp2
   go_ret2
   exact ⟨_, by first | rfl | (simp [errW_none, errW_some] <;> rfl) | (simp [*, errW_none, errW_some] <;> rfl), by first | exact Kd.R_nil _ _ _ _ _ | exact Kd.N_nil _ _ _ _ _ | exact Kd.V_nil _ _ _ _ _ | exact Kd.Q_nil _ _ _ _ _ | exact Kd.S_nil _ _ _ _ _, by repeat (first | (with_reducible first | exact HB.out | apply below_alloc | apply pw_below_drewN | apply below_drew1) | exact HB.out)⟩
  ·rw [if_neg c4] at H
   have c4b0 : decide (65535 < (l1.length : Int)) = false := decide_eq_false c4
   have c4b1 : decide (65535 < l1.length) = false := decide_eq_false (by omega)
   clear c4
   obtain ⟨y683, hy683⟩ : ∃ y_ : List Int, y_ = (([a0] : List Int)) := ⟨_, rfl⟩
   replace H : (if (l1.length : Int) < 128 then (if y683.length < 140737488355328 then ((some (y683 ++ [((l1.length : Int)) % 256] : List Int)).bind fun y686 => (if y686.length + l1.length < 140737488355328 then (some ((y686 ++ l1), 0)) else (none))) else (none)) else (if (l1.length : Int) < 256 then ((some (([129, ((l1.length : Int)) % 256] : List Int) : List Int)).bind fun y692 => (if y683.length + y692.length < 140737488355328 then ((some (y683 ++ y692 : List Int)).bind fun y695 => (if y695.length + l1.length < 140737488355328 then (some ((y695 ++ l1), 0)) else (none))) else (none))) else ((some (([130, ((l1.length : Int) / 256) % 256, ((l1.length : Int)) % 256] : List Int) : List Int)).bind fun y701 => (if y683.length + y701.length < 140737488355328 then ((some (y683 ++ y701 : List Int)).bind fun y704 => (if y704.length + l1.length < 140737488355328 then (some ((y704 ++ l1), 0)) else (none))) else (none))))) = some (r1, r2) := by first | (rw [hy683]; with_reducible exact H) | (have H2_ := (Option.bind_some _ _).symm.trans H; rw [hy683]; with_reducible exact H2_) | (have H2_ := (Option.bind_some _ _).symm.trans H; with_reducible exact H2_) | with_reducible exact H | (rw [hy683]; exact H) | exact H
   have Ny683 := Aside0.mk hy683
   clear hy683
   by_cases c5 : (l1.length : Int) < 128
   ·rw [if_pos c5] at H
    have c5b0 : decide ((l1.length : Int) < 128) = true := decide_eq_true c5
    have c5b1 : decide (l1.length < 128) = true := decide_eq_true (by omega)
    clear c5
    by_cases c6 : y683.length < 140737488355328
    ·rw [if_pos c6] at H
     have LMc6 := Aside0.mk c6
     clear c6
     obtain ⟨y686, hy686⟩ : ∃ y_ : List Int, y_ = (y683 ++ [((l1.length : Int)) % 256]) := ⟨_, rfl⟩
     replace H : (if y686.length + l1.length < 140737488355328 then (some ((y686 ++ l1), 0)) else (none)) = some (r1, r2) := by first | (rw [hy686]; with_reducible exact H) | (have H2_ := (Option.bind_some _ _).symm.trans H; rw [hy686]; with_reducible exact H2_) | (have H2_ := (Option.bind_some _ _).symm.trans H; with_reducible exact H2_) | with_reducible exact H | (rw [hy686]; exact H) | exact H
     have Ny686 := Aside0.mk hy686
     clear hy686
     by_cases c7 : y686.length + l1.length < 140737488355328
     ·rw [if_pos c7] at H
      have LMc7 := Aside0.mk c7
      clear c7
      obtain ⟨y689, hy689⟩ : ∃ y_ : List Int, y_ = (y686 ++ l1) := ⟨_, rfl⟩
      replace H : (some (y689, 0)) = some (r1, r2) := by first | (rw [hy689]; with_reducible exact H) | (have H2_ := (Option.bind_some _ _).symm.trans H; rw [hy689]; with_reducible exact H2_) | (have H2_ := (Option.bind_some _ _).symm.trans H; with_reducible exact H2_) | with_reducible exact H | (rw [hy689]; exact H) | exact H
      have Ny689 := Aside0.mk hy689
      clear hy689
      simp only [Option.some.injEq, Prod.mk.injEq] at H
      obtain ⟨rfl, rfl⟩ := H
      go_enter Tryz.func69, Tryz.ntmps69
      go_wp2_with (first | ((with_reducible refine gate_dst (N := 16) rfl ?_); refine Kd.R_lit (Kd.int .u8) _ 5 ?hg (N := 16) ?hd (xs := ([a0] : List Int)) (inner := [.int .u8 a0]) (ok := fun _ => True) (okp := fun _ => True) ?hr ?hp (fun _ hk => hk) trivial (Below.refl _ _) (Nat.le_refl _) (by simp) ?_; (case hd => rfl); (case hg => rfl); (case hr => first | (go_simp; done) | (go_simp; rfl)); (case hp => exact (Reps.one (show Kd.M (Kd.int .u8) _ _ _ a0 [.int .u8 a0] from rfl) (Reps.none _ _))); intro v684 w8 ho9 hb hg_ hnew_; clear hg_ hnew_; (first | rw [← Ny683.out] at ho9 | (simp only [Int.reduceToNat] at ho9; rw [← Ny683.out] at ho9)); have n0_ := Aside0.mk (Kd.R_lower ho9 (below_size (by repeat (first | (with_reducible first | exact HB.out | apply below_alloc | apply pw_below_drewN | apply below_drew1) | exact HB.out)))); have n1_ := Aside0.mk (below_step (by repeat (first | (with_reducible first | exact HB.out | apply below_alloc | apply pw_below_drewN | apply below_drew1) | exact HB.out)) hb); clear HB; have HO685 := n0_; have HB := n1_; clear n0_ n1_; clear hb ho9) | ((with_reducible refine gate_builtin (b := .append) (xs := #[.tmp 28, .tmp 31]) rfl ?_); at_builtin; refine Kd.R_append (Kd.int .u8) (w0 := w) w.heap.size rfl (.tmp 28) (.tmp 31) 25 5 (.int .u8 0) 1 rfl Tryz.underlying25 info5 rfl (by decide) (by omega) v684 y683 (((l1.length : Int)) % 256) [.int .u8 (((l1.length : Int)) % 256)] (fun _ => True) (fun _ => False) rfl rfl ?aP (fun _ hk => hk.elim) ?aF ?aO ?aB ?aS ?aL ?_; (case aP => exact rfl); (case aB => exact (by repeat (first | (with_reducible first | exact HB.out | apply below_alloc | apply pw_below_drewN | apply below_drew1) | exact HB.out))); (case aF => exact (fun _ _ => trivial)); (case aO => exact (by (with_reducible repeat (first | apply Kd.R_alloc | apply Kd.R_drewN | apply Kd.R_drew)); exact HO685.out)); (case aS => exact (below_size (by repeat (first | (with_reducible first | exact HB.out | apply below_alloc | apply pw_below_drewN | apply below_drew1) | exact HB.out)))); (case aL => have := LMc6.out; omega); intro v687 w10 ho hb hg hat; rw [← Ny686.out] at ho; have n0_ := Aside0.mk (hb); have n1_ := Aside0.mk (ho); clear HB; clear HO685; have HB := n0_; have HO688 := n1_; clear n0_ n1_; clear ho hb hg hat) | ((with_reducible refine gate_builtin (b := .append) (xs := #[.tmp 41, .tmp 42]) rfl ?_); at_builtin; refine Kd.R_append_rows (Kd.int .u8) (w0 := w) w.heap.size rfl (.tmp 41) (.tmp 42) 25 5 (.int .u8 0) 1 rfl Tryz.underlying25 info5 rfl (by decide) (by omega) v687 y686 l1 _ _ _ (fun _ => True) (fun _ => False) rfl rfl ?aO ?aR (fun _ _ h => h) (fun _ h => h.elim) ?aF ?aB ?aS ?aL ?_; (case aR => repeat (first | exact (Kd.C_below HR1.out HB.out) | (with_reducible refine Kd.C_alloc ?_ _) | (with_reducible refine Kd.C_drewN ?_ _) | (with_reducible refine Kd.C_drew ?_))); (case aB => exact (by repeat (first | (with_reducible first | exact HB.out | apply below_alloc | apply pw_below_drewN | apply below_drew1) | exact HB.out))); (case aF => exact (fun _ _ => trivial)); (case aO => exact (by (with_reducible repeat (first | apply Kd.R_alloc | apply Kd.R_drewN | apply Kd.R_drew)); exact HO688.out)); (case aS => exact (below_size (by repeat (first | (with_reducible first | exact HB.out | apply below_alloc | apply pw_below_drewN | apply below_drew1) | exact HB.out)))); (case aL => have := LMc7.out; omega); intro v690 w11 ho hb hg hat; rw [← Ny689.out] at ho; have n0_ := Aside0.mk (hb); have n1_ := Aside0.mk (ho); clear HB; clear HO688; have HB := n0_; have HO691 := n1_; clear n0_ n1_; clear ho hb hg hat))
      go_ret2
      exact ⟨_, by first | rfl | (simp [errW_none, errW_some] <;> rfl) | (simp [*, errW_none, errW_some] <;> rfl), by (with_reducible repeat (first | apply Kd.R_alloc | apply Kd.R_drewN | apply Kd.R_drew)); exact HO691.out, by repeat (first | (with_reducible first | exact HB.out | apply below_alloc | apply pw_below_drewN | apply below_drew1) | exact HB.out)⟩
     ·rw [if_neg c7] at H
      exact absurd H (by simp)
    ·rw [if_neg c6] at H
     exact absurd H (by simp)
   ·rw [if_neg c5] at H
    have c5b0 : decide ((l1.length : Int) < 128) = false := decide_eq_false c5
    have c5b1 : decide (l1.length < 128) = false := decide_eq_false (by omega)
    clear c5
    by_cases c12 : (l1.length : Int) < 256
    ·rw [if_pos c12] at H
     have c12b0 : decide ((l1.length : Int) < 256) = true := decide_eq_true c12
     have c12b1 : decide (l1.length < 256) = true := decide_eq_true (by omega)
     clear c12
     obtain ⟨y692, hy692⟩ : ∃ y_ : List Int, y_ = (([129, ((l1.length : Int)) % 256] : List Int)) := ⟨_, rfl⟩
     replace H : (if y683.length + y692.length < 140737488355328 then ((some (y683 ++ y692 : List Int)).bind fun y695 => (if y695.length + l1.length < 140737488355328 then (some ((y695 ++ l1), 0)) else (none))) else (none)) = some (r1, r2) := by first | (rw [hy692]; with_reducible exact H) | (have H2_ := (Option.bind_some _ _).symm.trans H; rw [hy692]; with_reducible exact H2_) | (have H2_ := (Option.bind_some _ _).symm.trans H; with_reducible exact H2_) | with_reducible exact H | (rw [hy692]; exact H) | exact H
     have Ny692 := Aside0.mk hy692
     clear hy692
     by_cases c13 : y683.length + y692.length < 140737488355328
     ·rw [if_pos c13] at H
      have LMc13 := Aside0.mk c13
      clear c13
      obtain ⟨y695, hy695⟩ : ∃ y_ : List Int, y_ = (y683 ++ y692) := ⟨_, rfl⟩
      replace H : (if y695.length + l1.length < 140737488355328 then (some ((y695 ++ l1), 0)) else (none)) = some (r1, r2) := by first | (rw [hy695]; with_reducible exact H) | (have H2_ := (Option.bind_some _ _).symm.trans H; rw [hy695]; with_reducible exact H2_) | (have H2_ := (Option.bind_some _ _).symm.trans H; with_reducible exact H2_) | with_reducible exact H | (rw [hy695]; exact H) | exact H
      have Ny695 := Aside0.mk hy695
      clear hy695
      by_cases c14 : y695.length + l1.length < 140737488355328
      ·rw [if_pos c14] at H
       have LMc14 := Aside0.mk c14
       clear c14
       obtain ⟨y698, hy698⟩ : ∃ y_ : List Int, y_ = (y695 ++ l1) := ⟨_, rfl⟩
       replace H : (some (y698, 0)) = some (r1, r2) := by first | (rw [hy698]; with_reducible exact H) | (have H2_ := (Option.bind_some _ _).symm.trans H; rw [hy698]; with_reducible exact H2_) | (have H2_ := (Option.bind_some _ _).symm.trans H; with_reducible exact H2_) | with_reducible exact H | (rw [hy698]; exact H) | exact H
       have Ny698 := Aside0.mk hy698
       clear hy698
       simp only [Option.some.injEq, Prod.mk.injEq] at H
       obtain ⟨rfl, rfl⟩ := H
       go_enter Tryz.func69, Tryz.ntmps69
       go_wp2_with (first | ((with_reducible refine gate_dst (N := 16) rfl ?_); refine Kd.R_lit (Kd.int .u8) _ 5 ?hg (N := 16) ?hd (xs := ([a0] : List Int)) (inner := [.int .u8 a0]) (ok := fun _ => True) (okp := fun _ => True) ?hr ?hp (fun _ hk => hk) trivial (Below.refl _ _) (Nat.le_refl _) (by simp) ?_; (case hd => rfl); (case hg => rfl); (case hr => first | (go_simp; done) | (go_simp; rfl)); (case hp => exact (Reps.one (show Kd.M (Kd.int .u8) _ _ _ a0 [.int .u8 a0] from rfl) (Reps.none _ _))); intro v684 w15 ho16 hb hg_ hnew_; clear hg_ hnew_; (first | rw [← Ny683.out] at ho16 | (simp only [Int.reduceToNat] at ho16; rw [← Ny683.out] at ho16)); have n0_ := Aside0.mk (Kd.R_lower ho16 (below_size (by repeat (first | (with_reducible first | exact HB.out | apply below_alloc | apply pw_below_drewN | apply below_drew1) | exact HB.out)))); have n1_ := Aside0.mk (below_step (by repeat (first | (with_reducible first | exact HB.out | apply below_alloc | apply pw_below_drewN | apply below_drew1) | exact HB.out)) hb); clear HB; have HO685 := n0_; have HB := n1_; clear n0_ n1_; clear hb ho16) | ((with_reducible refine gate_dst (N := 39) rfl ?_); refine Kd.R_lit (Kd.int .u8) _ 5 ?hg (N := 39) ?hd (xs := ([129, ((l1.length : Int)) % 256] : List Int)) (inner := [.int .u8 129, .int .u8 (((l1.length : Int)) % 256)]) (ok := fun _ => True) (okp := fun _ => True) ?hr ?hp (fun _ hk => hk) trivial (Below.refl _ _) (Nat.le_refl _) (by simp) ?_; (case hd => rfl); (case hg => rfl); (case hr => first | (go_simp; done) | (go_simp; rfl)); (case hp => exact (Reps.one (show Kd.M (Kd.int .u8) _ _ _ 129 [.int .u8 129] from rfl) (Reps.one (show Kd.M (Kd.int .u8) _ _ _ (((l1.length : Int)) % 256) [.int .u8 (((l1.length : Int)) % 256)] from rfl) (Reps.none _ _)))); intro v693 w17 ho18 hb hg_ hnew_; clear hg_ hnew_; (first | rw [← Ny692.out] at ho18 | (simp only [Int.reduceToNat] at ho18; rw [← Ny692.out] at ho18)); have n0_ := Aside0.mk (Kd.R_elder' (by (with_reducible repeat (first | apply Kd.R_alloc | apply Kd.R_drewN | apply Kd.R_drew)); exact HO685.out) (Kd.R_base ho18) hb); have n1_ := Aside0.mk (Kd.R_lower (Kd.R_new' ho18 (Kd.R_lt (by (with_reducible repeat (first | apply Kd.R_alloc | apply Kd.R_drewN | apply Kd.R_drew)); exact HO685.out))) (below_size (by repeat (first | (with_reducible first | exact HB.out | apply below_alloc | apply pw_below_drewN | apply below_drew1) | exact HB.out)))); have n2_ := Aside0.mk (below_step (by repeat (first | (with_reducible first | exact HB.out | apply below_alloc | apply pw_below_drewN | apply below_drew1) | exact HB.out)) hb); clear HO685; clear HB; have HO685 := n0_; have HO694 := n1_; have HB := n2_; clear n0_ n1_ n2_; clear hb ho18; obtain ⟨Ao20, co20, eo20⟩ := Kd.R_slice HO694.out; subst eo20) | ((with_reducible refine gate_builtin (b := .append) (xs := #[.tmp 36, .tmp 39]) rfl ?_); at_builtin; refine Kd.R_append_rows (Kd.int .u8) (w0 := w) w.heap.size rfl (.tmp 36) (.tmp 39) 25 5 (.int .u8 0) 1 rfl Tryz.underlying25 info5 rfl (by decide) (by omega) v684 y683 y692 _ _ _ (fun k_ => some k_ ≠ (.slice Ao20 y692.length co20 : Value).ownBlock) (fun _ => False) rfl rfl ?aO ?aR (fun _ _ h => h) (fun _ h => h.elim) ?aF ?aB ?aS ?aL ?_; (case aR => repeat (first | exact (Kd.R_reads' HO694.out).2.2 | (with_reducible refine Kd.C_alloc ?_ _) | (with_reducible refine Kd.C_drewN ?_ _) | (with_reducible refine Kd.C_drew ?_))); (case aB => exact (by repeat (first | (with_reducible first | exact HB.out | apply below_alloc | apply pw_below_drewN | apply below_drew1) | exact HB.out))); (case aF => exact (fun k_ hk => Kd.fresh' (Kd.R_lt (by (with_reducible repeat (first | apply Kd.R_alloc | apply Kd.R_drewN | apply Kd.R_drew)); exact HO694.out)) k_ hk)); (case aO => exact (by (with_reducible repeat (first | apply Kd.R_alloc | apply Kd.R_drewN | apply Kd.R_drew)); exact Kd.R_mono HO685.out (fun _ hk => hk.2))); (case aS => exact (below_size (by repeat (first | (with_reducible first | exact HB.out | apply below_alloc | apply pw_below_drewN | apply below_drew1) | exact HB.out)))); (case aL => have := LMc13.out; omega); intro v696 w19 ho hb hg hat; rw [← Ny695.out] at ho; have n0_ := Aside0.mk (Kd.R_after (ok := (fun _ => True)) (by (with_reducible repeat (first | apply Kd.R_alloc | apply Kd.R_drewN | apply Kd.R_drew)); exact HO694.out) hg hat); have n1_ := Aside0.mk (hb); have n2_ := Aside0.mk (ho); clear HO694; clear HB; clear HO685; have HO694 := n0_; have HB := n1_; have HO697 := n2_; clear n0_ n1_ n2_; clear ho hb hg hat) | ((with_reducible refine gate_builtin (b := .append) (xs := #[.tmp 41, .tmp 42]) rfl ?_); at_builtin; refine Kd.R_append_rows (Kd.int .u8) (w0 := w) w.heap.size rfl (.tmp 41) (.tmp 42) 25 5 (.int .u8 0) 1 rfl Tryz.underlying25 info5 rfl (by decide) (by omega) v696 y695 l1 _ _ _ (fun k_ => some k_ ≠ (.slice Ao20 y692.length co20 : Value).ownBlock) (fun _ => False) rfl rfl ?aO ?aR (fun _ _ h => h) (fun _ h => h.elim) ?aF ?aB ?aS ?aL ?_; (case aR => repeat (first | exact (Kd.C_below HR1.out HB.out) | (with_reducible refine Kd.C_alloc ?_ _) | (with_reducible refine Kd.C_drewN ?_ _) | (with_reducible refine Kd.C_drew ?_))); (case aB => exact (by repeat (first | (with_reducible first | exact HB.out | apply below_alloc | apply pw_below_drewN | apply below_drew1) | exact HB.out))); (case aF => exact (fun k_ hk => Kd.fresh' (Kd.R_lt (by (with_reducible repeat (first | apply Kd.R_alloc | apply Kd.R_drewN | apply Kd.R_drew)); exact HO694.out)) k_ hk)); (case aO => exact (by (with_reducible repeat (first | apply Kd.R_alloc | apply Kd.R_drewN | apply Kd.R_drew)); exact HO697.out)); (case aS => exact (below_size (by repeat (first | (with_reducible first | exact HB.out | apply below_alloc | apply pw_below_drewN | apply below_drew1) | exact HB.out)))); (case aL => have := LMc14.out; omega); intro v699 w21 ho hb hg hat; rw [← Ny698.out] at ho; have n0_ := Aside0.mk (Kd.R_after (ok := (fun _ => True)) (by (with_reducible repeat (first | apply Kd.R_alloc | apply Kd.R_drewN | apply Kd.R_drew)); exact HO694.out) hg hat); have n1_ := Aside0.mk (hb); have n2_ := Aside0.mk (ho); clear HO694; clear HB; clear HO697; have HO694 := n0_; have HB := n1_; have HO700 := n2_; clear n0_ n1_ n2_; clear ho hb hg hat))
       go_ret2
       exact ⟨_, by first | rfl | (simp [errW_none, errW_some] <;> rfl) | (simp [*, errW_none, errW_some] <;> rfl), by (with_reducible repeat (first | apply Kd.R_alloc | apply Kd.R_drewN | apply Kd.R_drew)); exact Kd.R_mono HO700.out (fun _ hk => trivial), by repeat (first | (with_reducible first | exact HB.out | apply below_alloc | apply pw_below_drewN | apply below_drew1) | exact HB.out)⟩
      ·rw [if_neg c14] at H
       exact absurd H (by simp)
     ·rw [if_neg c13] at H
      exact absurd H (by simp)
    ·rw [if_neg c12] at H
     have c12b0 : decide ((l1.length : Int) < 256) = false := decide_eq_false c12
     have c12b1 : decide (l1.length < 256) = false := decide_eq_false (by omega)
     clear c12
     obtain ⟨y701, hy701⟩ : ∃ y_ : List Int, y_ = (([130, ((l1.length : Int) / 256) % 256, ((l1.length : Int)) % 256] : List Int)) := ⟨_, rfl⟩
     replace H : (if y683.length + y701.length < 140737488355328 then ((some (y683 ++ y701 : List Int)).bind fun y704 => (if y704.length + l1.length < 140737488355328 then (some ((y704 ++ l1), 0)) else (none))) else (none)) = some (r1, r2) := by first | (rw [hy701]; with_reducible exact H) | (have H2_ := (Option.bind_some _ _).symm.trans H; rw [hy701]; with_reducible exact H2_) | (have H2_ := (Option.bind_some _ _).symm.trans H; with_reducible exact H2_) | with_reducible exact H | (rw [hy701]; exact H) | exact H
     have Ny701 := Aside0.mk hy701
     clear hy701
     by_cases c22 : y683.length + y701.length < 140737488355328
     ·rw [if_pos c22] at H
      have LMc22 := Aside0.mk c22
      clear c22
      obtain ⟨y704, hy704⟩ : ∃ y_ : List Int, y_ = (y683 ++ y701) := ⟨_, rfl⟩
      replace H : (if y704.length + l1.length < 140737488355328 then (some ((y704 ++ l1), 0)) else (none)) = some (r1, r2) := by first | (rw [hy704]; with_reducible exact H) | (have H2_ := (Option.bind_some _ _).symm.trans H; rw [hy704]; with_reducible exact H2_) | (have H2_ := (Option.bind_some _ _).symm.trans H; with_reducible exact H2_) | with_reducible exact H | (rw [hy704]; exact H) | exact H
      have Ny704 := Aside0.mk hy704
      clear hy704
      by_cases c23 : y704.length + l1.length < 140737488355328
      ·rw [if_pos c23] at H
       have LMc23 := Aside0.mk c23
       clear c23
       obtain ⟨y707, hy707⟩ : ∃ y_ : List Int, y_ = (y704 ++ l1) := ⟨_, rfl⟩
       replace H : (some (y707, 0)) = some (r1, r2) := by first | (rw [hy707]; with_reducible exact H) | (have H2_ := (Option.bind_some _ _).symm.trans H; rw [hy707]; with_reducible exact H2_) | (have H2_ := (Option.bind_some _ _).symm.trans H; with_reducible exact H2_) | with_reducible exact H | (rw [hy707]; exact H) | exact H
       have Ny707 := Aside0.mk hy707
       clear hy707
       simp only [Option.some.injEq, Prod.mk.injEq] at H
       obtain ⟨rfl, rfl⟩ := H
       go_enter Tryz.func69, Tryz.ntmps69
       go_wp2_with (first | ((with_reducible refine gate_dst (N := 16) rfl ?_); refine Kd.R_lit (Kd.int .u8) _ 5 ?hg (N := 16) ?hd (xs := ([a0] : List Int)) (inner := [.int .u8 a0]) (ok := fun _ => True) (okp := fun _ => True) ?hr ?hp (fun _ hk => hk) trivial (Below.refl _ _) (Nat.le_refl _) (by simp) ?_; (case hd => rfl); (case hg => rfl); (case hr => first | (go_simp; done) | (go_simp; rfl)); (case hp => exact (Reps.one (show Kd.M (Kd.int .u8) _ _ _ a0 [.int .u8 a0] from rfl) (Reps.none _ _))); intro v684 w24 ho25 hb hg_ hnew_; clear hg_ hnew_; (first | rw [← Ny683.out] at ho25 | (simp only [Int.reduceToNat] at ho25; rw [← Ny683.out] at ho25)); have n0_ := Aside0.mk (Kd.R_lower ho25 (below_size (by repeat (first | (with_reducible first | exact HB.out | apply below_alloc | apply pw_below_drewN | apply below_drew1) | exact HB.out)))); have n1_ := Aside0.mk (below_step (by repeat (first | (with_reducible first | exact HB.out | apply below_alloc | apply pw_below_drewN | apply below_drew1) | exact HB.out)) hb); clear HB; have HO685 := n0_; have HB := n1_; clear n0_ n1_; clear hb ho25) | ((with_reducible refine gate_dst (N := 23) rfl ?_); refine Kd.R_lit (Kd.int .u8) _ 5 ?hg (N := 23) ?hd (xs := ([130, ((l1.length : Int) / 256) % 256, ((l1.length : Int)) % 256] : List Int)) (inner := [.int .u8 130, .int .u8 (((l1.length : Int) / 256) % 256), .int .u8 (((l1.length : Int)) % 256)]) (ok := fun _ => True) (okp := fun _ => True) ?hr ?hp (fun _ hk => hk) trivial (Below.refl _ _) (Nat.le_refl _) (by simp) ?_; (case hd => rfl); (case hg => rfl); (case hr => first | (go_simp; done) | (go_simp; rfl)); (case hp => exact (Reps.one (show Kd.M (Kd.int .u8) _ _ _ 130 [.int .u8 130] from rfl) (Reps.one (show Kd.M (Kd.int .u8) _ _ _ (((l1.length : Int) / 256) % 256) [.int .u8 (((l1.length : Int) / 256) % 256)] from rfl) (Reps.one (show Kd.M (Kd.int .u8) _ _ _ (((l1.length : Int)) % 256) [.int .u8 (((l1.length : Int)) % 256)] from rfl) (Reps.none _ _))))); intro v702 w26 ho27 hb hg_ hnew_; clear hg_ hnew_; (first | rw [← Ny701.out] at ho27 | (simp only [Int.reduceToNat] at ho27; rw [← Ny701.out] at ho27)); have n0_ := Aside0.mk (Kd.R_elder' (by (with_reducible repeat (first | apply Kd.R_alloc | apply Kd.R_drewN | apply Kd.R_drew)); exact HO685.out) (Kd.R_base ho27) hb); have n1_ := Aside0.mk (Kd.R_lower (Kd.R_new' ho27 (Kd.R_lt (by (with_reducible repeat (first | apply Kd.R_alloc | apply Kd.R_drewN | apply Kd.R_drew)); exact HO685.out))) (below_size (by repeat (first | (with_reducible first | exact HB.out | apply below_alloc | apply pw_below_drewN | apply below_drew1) | exact HB.out)))); have n2_ := Aside0.mk (below_step (by repeat (first | (with_reducible first | exact HB.out | apply below_alloc | apply pw_below_drewN | apply below_drew1) | exact HB.out)) hb); clear HO685; clear HB; have HO685 := n0_; have HO703 := n1_; have HB := n2_; clear n0_ n1_ n2_; clear hb ho27; obtain ⟨Ao29, co29, eo29⟩ := Kd.R_slice HO703.out; subst eo29) | ((with_reducible refine gate_builtin (b := .append) (xs := #[.tmp 17, .tmp 23]) rfl ?_); at_builtin; refine Kd.R_append_rows (Kd.int .u8) (w0 := w) w.heap.size rfl (.tmp 17) (.tmp 23) 25 5 (.int .u8 0) 1 rfl Tryz.underlying25 info5 rfl (by decide) (by omega) v684 y683 y701 _ _ _ (fun k_ => some k_ ≠ (.slice Ao29 y701.length co29 : Value).ownBlock) (fun _ => False) rfl rfl ?aO ?aR (fun _ _ h => h) (fun _ h => h.elim) ?aF ?aB ?aS ?aL ?_; (case aR => repeat (first | exact (Kd.R_reads' HO703.out).2.2 | (with_reducible refine Kd.C_alloc ?_ _) | (with_reducible refine Kd.C_drewN ?_ _) | (with_reducible refine Kd.C_drew ?_))); (case aB => exact (by repeat (first | (with_reducible first | exact HB.out | apply below_alloc | apply pw_below_drewN | apply below_drew1) | exact HB.out))); (case aF => exact (fun k_ hk => Kd.fresh' (Kd.R_lt (by (with_reducible repeat (first | apply Kd.R_alloc | apply Kd.R_drewN | apply Kd.R_drew)); exact HO703.out)) k_ hk)); (case aO => exact (by (with_reducible repeat (first | apply Kd.R_alloc | apply Kd.R_drewN | apply Kd.R_drew)); exact Kd.R_mono HO685.out (fun _ hk => hk.2))); (case aS => exact (below_size (by repeat (first | (with_reducible first | exact HB.out | apply below_alloc | apply pw_below_drewN | apply below_drew1) | exact HB.out)))); (case aL => have := LMc22.out; omega); intro v705 w28 ho hb hg hat; rw [← Ny704.out] at ho; have n0_ := Aside0.mk (Kd.R_after (ok := (fun _ => True)) (by (with_reducible repeat (first | apply Kd.R_alloc | apply Kd.R_drewN | apply Kd.R_drew)); exact HO703.out) hg hat); have n1_ := Aside0.mk (hb); have n2_ := Aside0.mk (ho); clear HO703; clear HB; clear HO685; have HO703 := n0_; have HB := n1_; have HO706 := n2_; clear n0_ n1_ n2_; clear ho hb hg hat) | ((with_reducible refine gate_builtin (b := .append) (xs := #[.tmp 41, .tmp 42]) rfl ?_); at_builtin; refine Kd.R_append_rows (Kd.int .u8) (w0 := w) w.heap.size rfl (.tmp 41) (.tmp 42) 25 5 (.int .u8 0) 1 rfl Tryz.underlying25 info5 rfl (by decide) (by omega) v705 y704 l1 _ _ _ (fun k_ => some k_ ≠ (.slice Ao29 y701.length co29 : Value).ownBlock) (fun _ => False) rfl rfl ?aO ?aR (fun _ _ h => h) (fun _ h => h.elim) ?aF ?aB ?aS ?aL ?_; (case aR => repeat (first | exact (Kd.C_below HR1.out HB.out) | (with_reducible refine Kd.C_alloc ?_ _) | (with_reducible refine Kd.C_drewN ?_ _) | (with_reducible refine Kd.C_drew ?_))); (case aB => exact (by repeat (first | (with_reducible first | exact HB.out | apply below_alloc | apply pw_below_drewN | apply below_drew1) | exact HB.out))); (case aF => exact (fun k_ hk => Kd.fresh' (Kd.R_lt (by (with_reducible repeat (first | apply Kd.R_alloc | apply Kd.R_drewN | apply Kd.R_drew)); exact HO703.out)) k_ hk)); (case aO => exact (by (with_reducible repeat (first | apply Kd.R_alloc | apply Kd.R_drewN | apply Kd.R_drew)); exact HO706.out)); (case aS => exact (below_size (by repeat (first | (with_reducible first | exact HB.out | apply below_alloc | apply pw_below_drewN | apply below_drew1) | exact HB.out)))); (case aL => have := LMc23.out; omega); intro v708 w30 ho hb hg hat; rw [← Ny707.out] at ho; have n0_ := Aside0.mk (Kd.R_after (ok := (fun _ => True)) (by (with_reducible repeat (first | apply Kd.R_alloc | apply Kd.R_drewN | apply Kd.R_drew)); exact HO703.out) hg hat); have n1_ := Aside0.mk (hb); have n2_ := Aside0.mk (ho); clear HO703; clear HB; clear HO706; have HO703 := n0_; have HB := n1_; have HO709 := n2_; clear n0_ n1_ n2_; clear ho hb hg hat))
       go_ret2
       exact ⟨_, by first | rfl | (simp [errW_none, errW_some] <;> rfl) | (simp [*, errW_none, errW_some] <;> rfl), by (with_reducible repeat (first | apply Kd.R_alloc | apply Kd.R_drewN | apply Kd.R_drew)); exact Kd.R_mono HO709.out (fun _ hk => trivial), by repeat (first | (with_reducible first | exact HB.out | apply below_alloc | apply pw_below_drewN | apply below_drew1) | exact HB.out)⟩
      ·rw [if_neg c23] at H
       exact absurd H (by simp)
     ·rw [if_neg c22] at H
      exact absurd H (by simp)
end Go.Proofs.YtncanijjnhkgbaaGreatDoor.PMsgsPut
namespace Go.Proofs.YtncanijjnhkgbaaGreatDoor.PMsgsPut
open Go.RowKit Go.Proofs.YtncanijjnhkgbaaGreatDoorW.PrintWords Go.Proofs.YtncanijjnhkgbaaGreatDoorW.PrintLast Go.Proofs.YtncanijjnhkgbaaGreatDoorW.PrintMore
theorem rTag_comp {t : Int} (h : compTag t) : warderref04_tag.f t = some 0 := by
 unfold compTag at h
 simp only [List.mem_cons, List.not_mem_nil, or_false] at h
 rcases h with rfl | rfl | rfl | rfl | rfl | rfl | rfl | rfl | rfl | rfl | rfl | rfl | rfl | rfl | rfl <;> decide
theorem rTag_leaf {t : Int} {b : List Int} (h : leafOk t b) : warderref04_tag.f t = some 0 := by
 rcases leaf_tag h with rfl | rfl | rfl | rfl | rfl | rfl <;> decide
theorem rBool_some (c : Bool) : warderref02_Bool.f [if c = true then 255 else 0] = some (c, 0) := by
 cases c <;> decide
set_option maxRecDepth 100000 in
theorem rPut_some (t : Int) (b : List Int) (ht : (Go.bits .and .u8 t 31) ≠ 31) (hb : b.length ≤ 65535) : warderref01_Put.f t b = some (tlvB t b, 0) := by
 unfold warderref01_Put.f tlvB
 simp only [Option.bind_some]
 rw [if_neg ht, if_neg (by omega)]
 by_cases h1 : (b.length : Int) < 128
 ·rw [if_pos h1, if_pos (by simp), if_pos (by simp; omega), if_neg (by omega), if_neg (by omega)]
  rfl
 ·rw [if_neg h1]
  by_cases h2 : (b.length : Int) < 256
  ·rw [if_pos h2, if_pos (by simp), if_pos (by simp; omega), if_neg (by omega), if_pos (by omega)]
   rfl
  ·rw [if_neg h2, if_pos (by simp), if_pos (by simp; omega), if_pos (by omega)]
   rfl
theorem rNumber_some (l : List Int) (a : Nat) (x : Int) (h0 : 0 ≤ x) (h1 : x < 100) (ha : a < 1000) (hl : a + 1 < l.length) (e0 : rd l (a : Int) = x / 10 + 48) (e1 : rd l ((a + 1 : Nat) : Int) = x % 10 + 48) : warderref03_number.f l (a : Int) = some x := by
 unfold warderref03_number.f
 have hw : wrap64 ((a : Int) + 1) = ((a + 1 : Nat) : Int) := by rw [w64 (by omega) (by omega)]; omega
 rw [hw, e0, e1, if_pos (by omega), if_pos (by omega), if_neg (by omega), if_neg (by omega), if_pos (by omega), if_pos (by omega), if_neg (by omega), if_neg (by omega)]
 congr 1
 omega
end Go.Proofs.YtncanijjnhkgbaaGreatDoor.PMsgsPut
namespace Go.Proofs.YtncanijjnhkgbaaGreatDoor.PMsgsPut
open Go.RowKit Go.Proofs.YtncanijjnhkgbaaGreatDoorW.PrintWords Go.Proofs.YtncanijjnhkgbaaGreatDoorW.PrintLast Go.Proofs.YtncanijjnhkgbaaGreatDoorW.PrintMore
theorem rTime_loop (Y M a4 a5 a6 dd : Int) (hY : 1950 ≤ Y) (hY2 : Y ≤ 9999) (hM : M ≤ 12) (h4 : 0 ≤ a4 ∧ a4 < 24) (h5 : 0 ≤ a5 ∧ a5 < 60) (h6 : 0 ≤ a6 ∧ a6 < 60) (hd : -10000 ≤ dd ∧ dd ≤ 3000100) :
  ∀ (g : Nat) (i : Int), 1 ≤ i → i + g = M → Ev (fun k => warderref03_Time.l0 k Y M a4 a5 a6 (dd + cumO Y i) i) ((dd + cumO Y M) * 86400 + (3600 * a4 + 60 * a5 + a6), 0)
 | 0, i, h1, hi => by
  obtain rfl : i = M := by omega
  have hc := cumO_bd Y i h1 hM
  refine Ev.step ?_
  simp only [warderref03_Time.l0]
  refine Ev.neg (by omega) (Ev.pure ?_)
  rw [w64 (x := (dd + cumO Y i) * 86400) (by omega) (by omega), w64 (x := 3600 * a4) (by omega) (by omega), w64 (x := 60 * a5) (by omega) (by omega), w64 (x := 3600 * a4 + 60 * a5) (by omega) (by omega), w64 (x := 3600 * a4 + 60 * a5 + a6) (by omega) (by omega), w64 (by omega) (by omega)]
 | g + 1, i, h1, hi => by
  have hc := cumO_bd Y i h1 (by omega)
  have hm := monL_pos Y i
  have hs := cumO_succ Y i h1 (by omega)
  have ih := rTime_loop Y M a4 a5 a6 dd hY hY2 hM h4 h5 h6 hd g (i + 1) (by omega) (by omega)
  refine Ev.step ?_
  simp only [warderref03_Time.l0]
  refine Ev.pos (by omega) (Ev.bindP (month_some Y i (by omega) h1 (by omega)) ?_)
  rw [w64 (x := dd + cumO Y i + monL Y i) (by omega) (by omega), w64 (x := i + 1) (by omega) (by omega), show dd + cumO Y i + monL Y i = dd + cumO Y (i + 1) by omega]
  exact ih
theorem rTime_j3 (Y M d a4 a5 a6 : Int) (hY : 1950 ≤ Y) (hY2 : Y ≤ 9999) (hM1 : 1 ≤ M) (hM : M ≤ 12) (hd : 1 ≤ d) (hd1 : d ≤ 31) (hd2 : d ≤ monL Y M) (h4 : 0 ≤ a4 ∧ a4 < 24) (h5 : 0 ≤ a5 ∧ a5 < 60) (h6 : 0 ≤ a6 ∧ a6 < 60) :
  Ev (fun k => warderref03_Time.j3 k Y [M / 10 + 48, M % 10 + 48, d / 10 + 48, d % 10 + 48, a4 / 10 + 48, a4 % 10 + 48, a5 / 10 + 48, a5 % 10 + 48, a6 / 10 + 48, a6 % 10 + 48, 90]) ((daysO Y + d - 1 + cumO Y M) * 86400 + (3600 * a4 + 60 * a5 + a6), 0) := by
 have hb := days_bd Y hY (by omega)
 refine Ev.step ?_
 simp only [warderref03_Time.j3]
 refine Ev.bindP (rNumber_some _ 0 M (by omega) (by omega) (by decide) (by simp) rfl rfl) ?_
 refine Ev.bindP (rNumber_some _ 2 d (by omega) (by omega) (by decide) (by simp) rfl rfl) ?_
 refine Ev.bindP (rNumber_some _ 4 a4 (by omega) (by omega) (by decide) (by simp) rfl rfl) ?_
 refine Ev.bindP (rNumber_some _ 6 a5 (by omega) (by omega) (by decide) (by simp) rfl rfl) ?_
 refine Ev.bindP (rNumber_some _ 8 a6 (by omega) (by omega) (by decide) (by simp) rfl rfl) ?_
 refine Ev.pos (by simp) (Ev.pos rfl (Ev.neg (by omega) (Ev.neg (by omega) (Ev.neg (by omega) (Ev.neg (by omega) (Ev.neg (by omega) (Ev.neg (by omega) (Ev.neg (by omega) (Ev.neg (by omega) ?_)))))))))
 refine Ev.step ?_
 simp only [warderref03_Time.j4]
 refine Ev.neg (by rw [decide_eq_true_eq]; omega) (Ev.bindP (month_some Y M (by omega) hM1 hM) (Ev.neg (by omega) (Ev.bindP (days_some Y hY (by omega)) ?_)))
 rw [w64 (x := daysO Y + d) (by omega) (by omega), w64 (x := daysO Y + d - 1) (by omega) (by omega)]
 have h := rTime_loop Y M a4 a5 a6 (daysO Y + d - 1) hY hY2 hM h4 h5 h6 (by omega) (M - 1).toNat 1 (by omega) (by omega)
 have e : daysO Y + d - 1 + cumO Y 1 = daysO Y + d - 1 := by rw [show cumO Y 1 = 0 from rfl]; omega
 rw [e] at h
 exact h
theorem sec_eq (s q r day : Int) (hq : Int.tmod s 86400 = q) (h1 : -86400 < q) (h2 : Int.tmod (q + 86400) 86400 = r) (h3 : Int.tdiv (s - r) 86400 = day) : s = day * 86400 + r := by
 have h4 := Int.tmod_add_mul_tdiv s 86400
 rw [hq] at h4
 rw [tmod_nn _ (by omega)] at h2
 obtain ⟨z, hz⟩ : ∃ z, z = (q + 86400) / 86400 := ⟨_, rfl⟩
 generalize Int.tdiv s 86400 = y at h4
 have h5 : s - r = (y + z - 1) * 86400 := by omega
 rw [h5, Int.mul_tdiv_cancel _ (by decide)] at h3
 omega
set_option maxRecDepth 100000 in
theorem rTime_some (s : Int) (h1 : -631152000 ≤ s) (h2 : s ≤ 253402300799) : Ev (fun k => warderref03_Time.f k (timeT s) (timeE s)) (s, 0) := by
 obtain ⟨q, r, day, Y, M, d, ⟨q1, q2⟩, ⟨r1, r2⟩, ⟨bd1, bd2⟩, ⟨y1, y2⟩, ⟨m1, m2⟩, ⟨d1, d2⟩, e1, e2, e3, hday, hlen, hT, hL⟩ := put_facts s h1 h2
 have hs := sec_eq s q r day e1 q1 e2 e3
 clear e1 e2 e3 q1 q2 h1 h2
 have hj := rTime_j3 Y M d (r / 3600) (r / 60 % 60) (r % 60) y1 y2 m1 m2 d1 d2 hlen (by omega) (by omega) (by omega)
 have hv : (daysO Y + d - 1 + cumO Y M) * 86400 + (3600 * (r / 3600) + 60 * (r / 60 % 60) + r % 60) = s := by
  rw [show daysO Y + d - 1 + cumO Y M = day by omega, hs]
  omega
 rw [hv] at hj
 unfold warderref03_Time.f timeE
 by_cases hy : Y < 2050
 ·rw [if_pos hy] at hT
  rw [hT, hL, if_pos rfl, show Y % 100 / 10 + 48 = (Y % 100) / 10 + 48 from rfl]
  refine Ev.pos rfl (Ev.step ?_)
  simp only [warderref03_Time.j0, List.drop_succ_cons, List.drop_zero]
  refine Ev.pos rfl (Ev.bindP (rNumber_some _ 0 (Y % 100) (by omega) (by omega) (by decide) (by simp) rfl rfl) (Ev.pos (by omega) (Ev.step ?_)))
  simp only [warderref03_Time.j1, List.drop_succ_cons, List.drop_zero]
  by_cases h50 : Y % 100 < 50
  ·refine Ev.pos (decide_eq_true h50) (Ev.pos (by simp) (Ev.neg (by omega) ?_))
   rw [w64 (x := 2000 + Y % 100) (by omega) (by omega), show 2000 + Y % 100 = Y by omega]
   exact hj
  ·refine Ev.neg (by rw [decide_eq_true_eq]; exact h50) (Ev.pos (by simp) (Ev.neg (by omega) ?_))
   rw [w64 (x := 1900 + Y % 100) (by omega) (by omega), show 1900 + Y % 100 = Y by omega]
   exact hj
 ·rw [if_neg hy] at hT
  rw [hT, hL, if_neg (by decide), show Y / 1000 = Y / 100 / 10 by omega]
  refine Ev.neg (by decide) (Ev.step ?_)
  simp only [warderref03_Time.j0]
  refine Ev.neg (by decide) (Ev.pos (by decide) (Ev.step ?_))
  simp only [warderref03_Time.j2, List.drop_succ_cons, List.drop_zero]
  refine Ev.pos rfl (Ev.bindP (rNumber_some _ 0 (Y / 100) (by omega) (by omega) (by decide) (by simp) rfl rfl) (Ev.bindP (rNumber_some _ 2 (Y % 100) (by omega) (by omega) (by decide) (by simp) rfl rfl) (Ev.pos (by simp) (Ev.neg (by omega) (Ev.neg (by omega) ?_)))))
  rw [w64 (x := 100 * (Y / 100)) (by omega) (by omega), w64 (x := 100 * (Y / 100) + Y % 100) (by omega) (by omega), show 100 * (Y / 100) + Y % 100 = Y by omega]
  exact Ev.neg (by omega) hj
end Go.Proofs.YtncanijjnhkgbaaGreatDoor.PMsgsPut
namespace Go.Proofs.YtncanijjnhkgbaaGreatDoor.PMsgsPut
open Go.RowKit Go.Proofs.YtncanijjnhkgbaaGreatDoorW.PrintWords Go.Proofs.YtncanijjnhkgbaaGreatDoorW.PrintLast Go.Proofs.YtncanijjnhkgbaaGreatDoorW.PrintMore
attribute [local go_sem] max2_int min2_int max_two min_two max_three min_three max_four min_four
set_option linter.unusedVariables false
set_option linter.unusedSimpArgs false
mutual
noncomputable def warderref04_printed.l0 : Nat → Int → List (List Int) → List Int → Int → Int → List Int → List (S44) → Option (List Int × Int)
 | 0, _, _, _, _, _, _, _ => none
 | k + 1, x1, x7, x8, x9, x711000, x711001, x711002 => if x9 < (x711002.length : Int) then (if 0 ≤ x9 then ((warderref04_printed.f k ((rd_T44 x711002 x9).f0) ((rd_T44 x711002 x9).f1) ((rd_T44 x711002 x9).f2) (wrap64 (x1 + 1))).bind fun bt718 => (if bt718.2 = 0 then (if x7.length < 5864062014805 then (if x8.length + bt718.1.length < 140737488355328 then (warderref04_printed.l0 k x1 (x7 ++ [bt718.1]) (x8 ++ bt718.1) (wrap64 (x9 + 1)) x711000 x711001 x711002) else (none)) else (none)) else (some (([] : List Int), bt718.2)))) else (none)) else (if x711000 = 49 then ((warderref04_rising.f x7).bind fun t728 => (if t728 = true then ((warderref01_Put.f x711000 x8).bind fun bt729 => (some (bt729.1, bt729.2))) else (some (([] : List Int), 42)))) else ((warderref01_Put.f x711000 x8).bind fun bt733 => (some (bt733.1, bt733.2))))
noncomputable def warderref04_printed.f : Nat → Int → List Int → List (S44) → Int → Option (List Int × Int)
 | 0, _, _, _, _ => none
 | k + 1, a0_0, l0_1, l0_2, a1 => if a1 ≥ 32 then (some (([] : List Int), 41)) else ((warderref04_tag.f a0_0).bind fun t711 => (if t711 = 0 then (if (Go.bits .and .u8 a0_0 32) = 0 then (if (l0_2.length : Int) > 0 then (some (([] : List Int), 43)) else ((warderref04_body.f k a0_0 l0_1).bind fun t712 => (if t712 = 0 then ((warderref01_Put.f a0_0 l0_1).bind fun bt713 => (some (bt713.1, bt713.2))) else (some (([] : List Int), t712))))) else (if (l0_1.length : Int) > 0 then (some (([] : List Int), 43)) else (warderref04_printed.l0 k a1 ([] : List (List Int)) ([] : List Int) 0 a0_0 l0_1 l0_2))) else (some (([] : List Int), t711))))
end
set_option maxHeartbeats 8000000 in
set_option maxRecDepth 100000 in
theorem warderref04_printed.calls (k : Nat) : ∀ (a0_0 : Int) (A0_1 : Option Addr) (c0_1 : Nat) (l0_1 : List Int) (A0_2 : Option Addr) (c0_2 : Nat) (l0_2 : List (S44)) (a1 : Int) (r1 : List Int) (r2 : Int) (w : World) (hr0_1 : Kd.C (Kd.int .u8) w A0_1 l0_1.length l0_1) (hc0_1 : l0_1.length ≤ c0_1) (hr0_2 : Kd.C k44 w A0_2 l0_2.length l0_2) (hc0_2 : l0_2.length ≤ c0_2) (h : warderref04_printed.f k a0_0 l0_1 l0_2 a1 = some (r1, r2)),
  Calls Tryz.prog 36 #[.agg #[.int .u8 a0_0, .slice A0_1 l0_1.length c0_1, .slice A0_2 l0_2.length c0_2], .int .i64 a1] w fun e w' => ∃ v0_ : Value, e = .returned (.tuple #[v0_, .int .i64 r2]) ∧ Kd.R (Kd.int .u8) 5 w' w.heap.size (fun _ => True) v0_ r1 ∧ Below w.heap.size w w' := by
 induction k using Nat.strongRecOn with
 | _ k ih =>
 intro a0_0 A0_1 c0_1 l0_1 A0_2 c0_2 l0_2 a1 r1 r2 w hr0_1 hc0_1 hr0_2 hc0_2 h
 cases k with
 | zero => exact absurd h (by simp [warderref04_printed.f])
 | succ k =>
 simp only [warderref04_printed.f] at h
 have hu44 := Tryz.underlying44
 have HR0_1 := Aside0.mk hr0_1
 have HC0_1 := Aside0.mk hc0_1
 clear hr0_1 hc0_1
 have HR0_2 := Aside0.mk hr0_2
 have HC0_2 := Aside0.mk hc0_2
 clear hr0_2 hc0_2
 have HB := Aside0.mk (Below.refl w.heap.size w)
 have H : (if a1 ≥ 32 then (some (([] : List Int), 41)) else ((warderref04_tag.f a0_0).bind fun t711 => (if t711 = 0 then (if (Go.bits .and .u8 a0_0 32) = 0 then (if (l0_2.length : Int) > 0 then (some (([] : List Int), 43)) else ((warderref04_body.f k a0_0 l0_1).bind fun t712 => (if t712 = 0 then ((warderref01_Put.f a0_0 l0_1).bind fun bt713 => (some (bt713.1, bt713.2))) else (some (([] : List Int), t712))))) else (if (l0_1.length : Int) > 0 then (some (([] : List Int), 43)) else (warderref04_printed.l0 k a1 ([] : List (List Int)) ([] : List Int) 0 a0_0 l0_1 l0_2))) else (some (([] : List Int), t711))))) = some (r1, r2) := h
 clear h
 by_cases c3 : a1 ≥ 32
 ·rw [if_pos c3] at H
  have c3b0 : decide (32 ≤ a1) = true := decide_eq_true c3
  clear c3
  simp only [Option.some.injEq, Prod.mk.injEq] at H
  obtain ⟨rfl, rfl⟩ := H
  go_enter Tryz.func36, Tryz.ntmps36
  go_wp2_with (first | ((with_reducible refine gate_dst (N := 2) rfl ?_); refine box_event ?hg (N := 2) ?hd (cs := #[.int .u8 a0_0, .slice A0_1 l0_1.length c0_1, .slice A0_2 l0_2.length c0_2]) (t := 44) ?hr ?_; (case hd => rfl); (case hg => rfl); (case hr => first | (go_simp; done) | (go_simp; rfl)); intro gb710 hg w4 hbox hb; have n0_ := Aside0.mk (below_step (by repeat (first | (with_reducible first | exact HB.out | apply below_alloc | apply pw_below_drewN | apply below_drew1) | exact HB.out)) hb); have n1_ := Aside0.mk (hbox); have n2_ := Aside0.mk ((by rw [hg]; exact (below_size (by repeat (first | (with_reducible first | exact HB.out | apply below_alloc | apply pw_below_drewN | apply below_drew1) | exact HB.out))) : w.heap.size ≤ gb710)); have n3_ := Aside0.mk ((by rw [hg]; exact (below_size (by repeat (first | (with_reducible first | exact HB.out | apply below_alloc | apply pw_below_drewN | apply below_drew1) | exact HB.out))) : w.heap.size ≤ gb710)); clear HB; have HB := n0_; have BK710 := n1_; have GW710 := n2_; have GE710 := n3_; clear n0_ n1_ n2_ n3_; clear hb hbox hg))
  go_ret2
  exact ⟨_, by first | rfl | (simp [errW_none, errW_some] <;> rfl) | (simp [*, errW_none, errW_some] <;> rfl), by first | exact Kd.R_nil _ _ _ _ _ | exact Kd.N_nil _ _ _ _ _ | exact Kd.V_nil _ _ _ _ _ | exact Kd.Q_nil _ _ _ _ _ | exact Kd.S_nil _ _ _ _ _, by repeat (first | (with_reducible first | exact HB.out | apply below_alloc | apply pw_below_drewN | apply below_drew1 | refine below_set ?_ GE710.out) | exact HB.out)⟩
 ·rw [if_neg c3] at H
  have c3b0 : decide (32 ≤ a1) = false := decide_eq_false c3
  clear c3
  replace H := Option.bind_eq_some_iff.mp H
  obtain ⟨t711, A50, H⟩ := H
  replace H : (if t711 = 0 then (if (Go.bits .and .u8 a0_0 32) = 0 then (if (l0_2.length : Int) > 0 then (some (([] : List Int), 43)) else ((warderref04_body.f k a0_0 l0_1).bind fun t712 => (if t712 = 0 then ((warderref01_Put.f a0_0 l0_1).bind fun bt713 => (some (bt713.1, bt713.2))) else (some (([] : List Int), t712))))) else (if (l0_1.length : Int) > 0 then (some (([] : List Int), 43)) else (warderref04_printed.l0 k a1 ([] : List (List Int)) ([] : List Int) 0 a0_0 l0_1 l0_2))) else (some (([] : List Int), t711))) = some (r1, r2) := H
  have A5 := Aside0.mk A50
  clear A50
  by_cases c6 : t711 = 0
  ·rw [if_pos c6] at H
   have c6b0 : (t711 == 0) = true := beq_iff_eq.mpr c6
   have c6b1 : (t711 != 0) = false := bne_eq_false_iff_eq.mpr c6
   clear c6
   by_cases c7 : (Go.bits .and .u8 a0_0 32) = 0
   ·rw [if_pos c7] at H
    have c7b0 : ((Go.bits .and .u8 a0_0 32) == 0) = true := beq_iff_eq.mpr c7
    have c7b1 : ((Go.bits .and .u8 a0_0 32) != 0) = false := bne_eq_false_iff_eq.mpr c7
    clear c7
    by_cases c8 : (l0_2.length : Int) > 0
    ·rw [if_pos c8] at H
     have c8b0 : decide (0 < (l0_2.length : Int)) = true := decide_eq_true c8
     have c8b1 : decide (0 < l0_2.length) = true := decide_eq_true (by omega)
     clear c8
     simp only [Option.some.injEq, Prod.mk.injEq] at H
     obtain ⟨rfl, rfl⟩ := H
     go_enter Tryz.func36, Tryz.ntmps36
     go_wp2_with (first | ((with_reducible refine gate_dst (N := 2) rfl ?_); refine box_event ?hg (N := 2) ?hd (cs := #[.int .u8 a0_0, .slice A0_1 l0_1.length c0_1, .slice A0_2 l0_2.length c0_2]) (t := 44) ?hr ?_; (case hd => rfl); (case hg => rfl); (case hr => first | (go_simp; done) | (go_simp; rfl)); intro gb710 hg w9 hbox hb; have n0_ := Aside0.mk (below_step (by repeat (first | (with_reducible first | exact HB.out | apply below_alloc | apply pw_below_drewN | apply below_drew1) | exact HB.out)) hb); have n1_ := Aside0.mk (hbox); have n2_ := Aside0.mk ((by rw [hg]; exact (below_size (by repeat (first | (with_reducible first | exact HB.out | apply below_alloc | apply pw_below_drewN | apply below_drew1) | exact HB.out))) : w.heap.size ≤ gb710)); have n3_ := Aside0.mk ((by rw [hg]; exact (below_size (by repeat (first | (with_reducible first | exact HB.out | apply below_alloc | apply pw_below_drewN | apply below_drew1) | exact HB.out))) : w.heap.size ≤ gb710)); clear HB; have HB := n0_; have BK710 := n1_; have GW710 := n2_; have GE710 := n3_; clear n0_ n1_ n2_ n3_; clear hb hbox hg; have hcz10_0 : w9.cell? ⟨gb710, 0, none⟩ = some (.int .u8 a0_0) := (blk_cell BK710.out 0).trans rfl; have hcz10_1 : w9.cell? ⟨gb710, 1, none⟩ = some (.slice A0_1 l0_1.length c0_1) := (blk_cell BK710.out 1).trans rfl; have hcz10_2 : w9.cell? ⟨gb710, 2, none⟩ = some (.slice A0_2 l0_2.length c0_2) := (blk_cell BK710.out 2).trans rfl; have hfz10_0 := blk_frozen BK710.out 0; have hfz10_1 := blk_frozen BK710.out 1; have hfz10_2 := blk_frozen BK710.out 2) | ((with_reducible refine gate_callee (f := 67) rfl ?_); refine goesL_ (some 16) rfl rfl Tryz.func67 (by kernel_rfl) rfl #[.int .u8 a0_0] rfl (by (try simp only [List.map_toArray, List.map_cons, List.map_nil]); first | done | rfl | (simp only [List.length_drop, List.length_take]; rfl)) ?_; (with_reducible refine (warderref04_tag.calls a0_0 t711 _ A5.out).mono ?_); rintro e w' ⟨rfl, ⟨nd, rfl⟩⟩; refine ⟨_, rfl, ?_⟩))
     go_ret2
     exact ⟨_, by first | rfl | (simp [errW_none, errW_some] <;> rfl) | (simp [*, errW_none, errW_some] <;> rfl), by first | exact Kd.R_nil _ _ _ _ _ | exact Kd.N_nil _ _ _ _ _ | exact Kd.V_nil _ _ _ _ _ | exact Kd.Q_nil _ _ _ _ _ | exact Kd.S_nil _ _ _ _ _, by repeat (first | (with_reducible first | exact HB.out | apply below_alloc | apply pw_below_drewN | apply below_drew1 | refine below_set ?_ GE710.out) | exact HB.out)⟩
    ·rw [if_neg c8] at H
     have c8b0 : decide (0 < (l0_2.length : Int)) = false := decide_eq_false c8
     have c8b1 : decide (0 < l0_2.length) = false := decide_eq_false (by omega)
     clear c8
     replace H := Option.bind_eq_some_iff.mp H
     obtain ⟨t712, A110, H⟩ := H
     replace H : (if t712 = 0 then ((warderref01_Put.f a0_0 l0_1).bind fun bt713 => (some (bt713.1, bt713.2))) else (some (([] : List Int), t712))) = some (r1, r2) := H
     have A11 := Aside0.mk A110
     clear A110
     by_cases c12 : t712 = 0
     ·rw [if_pos c12] at H
      have c12b0 : (t712 == 0) = true := beq_iff_eq.mpr c12
      have c12b1 : (t712 != 0) = false := bne_eq_false_iff_eq.mpr c12
      clear c12
      replace H := Option.bind_eq_some_iff.mp H
      obtain ⟨⟨t713, t714⟩, A130, H⟩ := H
      replace H : (some (t713, t714)) = some (r1, r2) := H
      have A13 := Aside0.mk A130
      clear A130
      simp only [Option.some.injEq, Prod.mk.injEq] at H
      obtain ⟨rfl, rfl⟩ := H
      go_enter Tryz.func36, Tryz.ntmps36
      go_wp2_with (first | ((with_reducible refine gate_dst (N := 2) rfl ?_); refine box_event ?hg (N := 2) ?hd (cs := #[.int .u8 a0_0, .slice A0_1 l0_1.length c0_1, .slice A0_2 l0_2.length c0_2]) (t := 44) ?hr ?_; (case hd => rfl); (case hg => rfl); (case hr => first | (go_simp; done) | (go_simp; rfl)); intro gb710 hg w14 hbox hb; have n0_ := Aside0.mk (below_step (by repeat (first | (with_reducible first | exact HB.out | apply below_alloc | apply pw_below_drewN | apply below_drew1) | exact HB.out)) hb); have n1_ := Aside0.mk (hbox); have n2_ := Aside0.mk ((by rw [hg]; exact (below_size (by repeat (first | (with_reducible first | exact HB.out | apply below_alloc | apply pw_below_drewN | apply below_drew1) | exact HB.out))) : w.heap.size ≤ gb710)); have n3_ := Aside0.mk ((by rw [hg]; exact (below_size (by repeat (first | (with_reducible first | exact HB.out | apply below_alloc | apply pw_below_drewN | apply below_drew1) | exact HB.out))) : w.heap.size ≤ gb710)); clear HB; have HB := n0_; have BK710 := n1_; have GW710 := n2_; have GE710 := n3_; clear n0_ n1_ n2_ n3_; clear hb hbox hg; have hcz15_0 : w14.cell? ⟨gb710, 0, none⟩ = some (.int .u8 a0_0) := (blk_cell BK710.out 0).trans rfl; have hcz15_1 : w14.cell? ⟨gb710, 1, none⟩ = some (.slice A0_1 l0_1.length c0_1) := (blk_cell BK710.out 1).trans rfl; have hcz15_2 : w14.cell? ⟨gb710, 2, none⟩ = some (.slice A0_2 l0_2.length c0_2) := (blk_cell BK710.out 2).trans rfl; have hfz15_0 := blk_frozen BK710.out 0; have hfz15_1 := blk_frozen BK710.out 1; have hfz15_2 := blk_frozen BK710.out 2) | ((with_reducible refine gate_callee (f := 67) rfl ?_); refine goesL_ (some 16) rfl rfl Tryz.func67 (by kernel_rfl) rfl #[.int .u8 a0_0] rfl (by (try simp only [List.map_toArray, List.map_cons, List.map_nil]); first | done | rfl | (simp only [List.length_drop, List.length_take]; rfl)) ?_; (with_reducible refine (warderref04_tag.calls a0_0 t711 _ A5.out).mono ?_); rintro e w' ⟨rfl, ⟨nd, rfl⟩⟩; refine ⟨_, rfl, ?_⟩) | ((with_reducible refine gate_callee (f := 68) rfl ?_); refine goesL_ (some 32) rfl rfl Tryz.func68 (by kernel_rfl) rfl #[.int .u8 a0_0, .slice A0_1 l0_1.length c0_1] rfl (by (try simp only [List.map_toArray, List.map_cons, List.map_nil]); first | done | rfl | (simp only [List.length_drop, List.length_take]; rfl)) ?_; (with_reducible refine (warderref04_body.calls k a0_0 _ _ l0_1 t712 _ ?side1 ?side2 A11.out).mono ?_); (case side1 => repeat (first | exact (Kd.C_below HR0_1.out (by repeat (first | (with_reducible first | exact HB.out | apply below_alloc | apply pw_below_drewN | apply below_drew1 | refine below_set ?_ GE710.out) | exact HB.out))) | (with_reducible refine Kd.C_alloc ?_ _) | (with_reducible refine Kd.C_drewN ?_ _) | (with_reducible refine Kd.C_drew ?_))); (case side2 => exact HC0_1.out); rintro e w16 ⟨rfl, hb⟩; refine ⟨_, rfl, ?_⟩; have n0_ := Aside0.mk (blk_below (g := gb710) (o := .cells #[.int .u8 a0_0, .slice A0_1 l0_1.length c0_1, .slice A0_2 l0_2.length c0_2] 44 (0, 0)) (by (with_reducible repeat (first | refine blk_drewN ?_ _ | refine blk_drew ?_ | refine blk_alloc ?_ _)); exact BK710.out) hb); have n1_ := Aside0.mk (below_step (by repeat (first | (with_reducible first | exact HB.out | apply below_alloc | apply pw_below_drewN | apply below_drew1 | refine below_set ?_ GE710.out) | exact HB.out)) hb); clear BK710; clear HB; have BK710 := n0_; have HB := n1_; clear n0_ n1_; (try clear hb); (try clear hb2); (try clear hk); (try clear hi); have hcz17_0 : w16.cell? ⟨gb710, 0, none⟩ = some (.int .u8 a0_0) := (blk_cell BK710.out 0).trans rfl; have hcz17_1 : w16.cell? ⟨gb710, 1, none⟩ = some (.slice A0_1 l0_1.length c0_1) := (blk_cell BK710.out 1).trans rfl; have hcz17_2 : w16.cell? ⟨gb710, 2, none⟩ = some (.slice A0_2 l0_2.length c0_2) := (blk_cell BK710.out 2).trans rfl; have hfz17_0 := blk_frozen BK710.out 0; have hfz17_1 := blk_frozen BK710.out 1; have hfz17_2 := blk_frozen BK710.out 2) | ((with_reducible refine gate_callee (f := 69) rfl ?_); refine goesL_ (some 40) rfl rfl Tryz.func69 (by kernel_rfl) rfl #[.int .u8 a0_0, .slice A0_1 l0_1.length c0_1] rfl (by (try simp only [List.map_toArray, List.map_cons, List.map_nil]); first | done | rfl | (simp only [List.length_drop, List.length_take]; rfl)) ?_; (with_reducible refine (warderref01_Put.calls a0_0 _ _ l0_1 t713 t714 _ ?side1 ?side2 A13.out).mono ?_); (case side1 => repeat (first | exact (Kd.C_below HR0_1.out HB.out) | (with_reducible refine Kd.C_alloc ?_ _) | (with_reducible refine Kd.C_drewN ?_ _) | (with_reducible refine Kd.C_drew ?_))); (case side2 => exact HC0_1.out); rintro e w18 ⟨v715, rfl, ho0, hb⟩; refine ⟨_, rfl, ?_⟩; have n0_ := Aside0.mk (Kd.R_lower ho0 (below_size (by repeat (first | (with_reducible first | exact HB.out | apply below_alloc | apply pw_below_drewN | apply below_drew1 | refine below_set ?_ GE710.out) | exact HB.out)))); have n1_ := Aside0.mk (blk_below (g := gb710) (o := .cells #[.int .u8 a0_0, .slice A0_1 l0_1.length c0_1, .slice A0_2 l0_2.length c0_2] 44 (0, 0)) (by (with_reducible repeat (first | refine blk_drewN ?_ _ | refine blk_drew ?_ | refine blk_alloc ?_ _)); exact BK710.out) hb); have n2_ := Aside0.mk (below_step (by repeat (first | (with_reducible first | exact HB.out | apply below_alloc | apply pw_below_drewN | apply below_drew1 | refine below_set ?_ GE710.out) | exact HB.out)) hb); clear BK710; clear HB; have HO716 := n0_; have BK710 := n1_; have HB := n2_; clear n0_ n1_ n2_; (try clear hb); (try clear hb2); (try clear hk); (try clear hi); (try clear ho0)))
      go_ret2
      exact ⟨_, by first | rfl | (simp [errW_none, errW_some] <;> rfl) | (simp [*, errW_none, errW_some] <;> rfl), by (with_reducible repeat (first | apply Kd.R_alloc | apply Kd.R_drewN | apply Kd.R_drew)); exact HO716.out, by repeat (first | (with_reducible first | exact HB.out | apply below_alloc | apply pw_below_drewN | apply below_drew1 | refine below_set ?_ GE710.out) | exact HB.out)⟩
     ·rw [if_neg c12] at H
      have c12b0 : (t712 == 0) = false := beq_eq_false_iff_ne.mpr c12
      have c12b1 : (t712 != 0) = true := bne_iff_ne.mpr c12
      simp only [Option.some.injEq, Prod.mk.injEq] at H
      obtain ⟨rfl, rfl⟩ := H
      go_enter Tryz.func36, Tryz.ntmps36
      go_wp2_with (first | ((with_reducible refine gate_dst (N := 2) rfl ?_); refine box_event ?hg (N := 2) ?hd (cs := #[.int .u8 a0_0, .slice A0_1 l0_1.length c0_1, .slice A0_2 l0_2.length c0_2]) (t := 44) ?hr ?_; (case hd => rfl); (case hg => rfl); (case hr => first | (go_simp; done) | (go_simp; rfl)); intro gb710 hg w19 hbox hb; have n0_ := Aside0.mk (below_step (by repeat (first | (with_reducible first | exact HB.out | apply below_alloc | apply pw_below_drewN | apply below_drew1) | exact HB.out)) hb); have n1_ := Aside0.mk (hbox); have n2_ := Aside0.mk ((by rw [hg]; exact (below_size (by repeat (first | (with_reducible first | exact HB.out | apply below_alloc | apply pw_below_drewN | apply below_drew1) | exact HB.out))) : w.heap.size ≤ gb710)); have n3_ := Aside0.mk ((by rw [hg]; exact (below_size (by repeat (first | (with_reducible first | exact HB.out | apply below_alloc | apply pw_below_drewN | apply below_drew1) | exact HB.out))) : w.heap.size ≤ gb710)); clear HB; have HB := n0_; have BK710 := n1_; have GW710 := n2_; have GE710 := n3_; clear n0_ n1_ n2_ n3_; clear hb hbox hg; have hcz20_0 : w19.cell? ⟨gb710, 0, none⟩ = some (.int .u8 a0_0) := (blk_cell BK710.out 0).trans rfl; have hcz20_1 : w19.cell? ⟨gb710, 1, none⟩ = some (.slice A0_1 l0_1.length c0_1) := (blk_cell BK710.out 1).trans rfl; have hcz20_2 : w19.cell? ⟨gb710, 2, none⟩ = some (.slice A0_2 l0_2.length c0_2) := (blk_cell BK710.out 2).trans rfl; have hfz20_0 := blk_frozen BK710.out 0; have hfz20_1 := blk_frozen BK710.out 1; have hfz20_2 := blk_frozen BK710.out 2) | ((with_reducible refine gate_callee (f := 67) rfl ?_); refine goesL_ (some 16) rfl rfl Tryz.func67 (by kernel_rfl) rfl #[.int .u8 a0_0] rfl (by (try simp only [List.map_toArray, List.map_cons, List.map_nil]); first | done | rfl | (simp only [List.length_drop, List.length_take]; rfl)) ?_; (with_reducible refine (warderref04_tag.calls a0_0 t711 _ A5.out).mono ?_); rintro e w' ⟨rfl, ⟨nd, rfl⟩⟩; refine ⟨_, rfl, ?_⟩) | ((with_reducible refine gate_callee (f := 68) rfl ?_); refine goesL_ (some 32) rfl rfl Tryz.func68 (by kernel_rfl) rfl #[.int .u8 a0_0, .slice A0_1 l0_1.length c0_1] rfl (by (try simp only [List.map_toArray, List.map_cons, List.map_nil]); first | done | rfl | (simp only [List.length_drop, List.length_take]; rfl)) ?_; (with_reducible refine (warderref04_body.calls k a0_0 _ _ l0_1 t712 _ ?side1 ?side2 A11.out).mono ?_); (case side1 => repeat (first | exact (Kd.C_below HR0_1.out (by repeat (first | (with_reducible first | exact HB.out | apply below_alloc | apply pw_below_drewN | apply below_drew1 | refine below_set ?_ GE710.out) | exact HB.out))) | (with_reducible refine Kd.C_alloc ?_ _) | (with_reducible refine Kd.C_drewN ?_ _) | (with_reducible refine Kd.C_drew ?_))); (case side2 => exact HC0_1.out); rintro e w21 ⟨rfl, hb⟩; refine ⟨_, rfl, ?_⟩; have n0_ := Aside0.mk (blk_below (g := gb710) (o := .cells #[.int .u8 a0_0, .slice A0_1 l0_1.length c0_1, .slice A0_2 l0_2.length c0_2] 44 (0, 0)) (by (with_reducible repeat (first | refine blk_drewN ?_ _ | refine blk_drew ?_ | refine blk_alloc ?_ _)); exact BK710.out) hb); have n1_ := Aside0.mk (below_step (by repeat (first | (with_reducible first | exact HB.out | apply below_alloc | apply pw_below_drewN | apply below_drew1 | refine below_set ?_ GE710.out) | exact HB.out)) hb); clear BK710; clear HB; have BK710 := n0_; have HB := n1_; clear n0_ n1_; (try clear hb); (try clear hb2); (try clear hk); (try clear hi)))
      go_ret2
      exact ⟨_, by first | rfl | (simp [errW_none, errW_some] <;> rfl) | (simp [*, errW_none, errW_some] <;> rfl), by first | exact Kd.R_nil _ _ _ _ _ | exact Kd.N_nil _ _ _ _ _ | exact Kd.V_nil _ _ _ _ _ | exact Kd.Q_nil _ _ _ _ _ | exact Kd.S_nil _ _ _ _ _, by repeat (first | (with_reducible first | exact HB.out | apply below_alloc | apply pw_below_drewN | apply below_drew1 | refine below_set ?_ GE710.out) | exact HB.out)⟩
   ·rw [if_neg c7] at H
    have c7b0 : ((Go.bits .and .u8 a0_0 32) == 0) = false := beq_eq_false_iff_ne.mpr c7
    have c7b1 : ((Go.bits .and .u8 a0_0 32) != 0) = true := bne_iff_ne.mpr c7
    by_cases c22 : (l0_1.length : Int) > 0
    ·rw [if_pos c22] at H
     have c22b0 : decide (0 < (l0_1.length : Int)) = true := decide_eq_true c22
     have c22b1 : decide (0 < l0_1.length) = true := decide_eq_true (by omega)
     clear c22
     simp only [Option.some.injEq, Prod.mk.injEq] at H
     obtain ⟨rfl, rfl⟩ := H
     go_enter Tryz.func36, Tryz.ntmps36
     go_wp2_with (first | ((with_reducible refine gate_dst (N := 2) rfl ?_); refine box_event ?hg (N := 2) ?hd (cs := #[.int .u8 a0_0, .slice A0_1 l0_1.length c0_1, .slice A0_2 l0_2.length c0_2]) (t := 44) ?hr ?_; (case hd => rfl); (case hg => rfl); (case hr => first | (go_simp; done) | (go_simp; rfl)); intro gb710 hg w23 hbox hb; have n0_ := Aside0.mk (below_step (by repeat (first | (with_reducible first | exact HB.out | apply below_alloc | apply pw_below_drewN | apply below_drew1) | exact HB.out)) hb); have n1_ := Aside0.mk (hbox); have n2_ := Aside0.mk ((by rw [hg]; exact (below_size (by repeat (first | (with_reducible first | exact HB.out | apply below_alloc | apply pw_below_drewN | apply below_drew1) | exact HB.out))) : w.heap.size ≤ gb710)); have n3_ := Aside0.mk ((by rw [hg]; exact (below_size (by repeat (first | (with_reducible first | exact HB.out | apply below_alloc | apply pw_below_drewN | apply below_drew1) | exact HB.out))) : w.heap.size ≤ gb710)); clear HB; have HB := n0_; have BK710 := n1_; have GW710 := n2_; have GE710 := n3_; clear n0_ n1_ n2_ n3_; clear hb hbox hg; have hcz24_0 : w23.cell? ⟨gb710, 0, none⟩ = some (.int .u8 a0_0) := (blk_cell BK710.out 0).trans rfl; have hcz24_1 : w23.cell? ⟨gb710, 1, none⟩ = some (.slice A0_1 l0_1.length c0_1) := (blk_cell BK710.out 1).trans rfl; have hcz24_2 : w23.cell? ⟨gb710, 2, none⟩ = some (.slice A0_2 l0_2.length c0_2) := (blk_cell BK710.out 2).trans rfl; have hfz24_0 := blk_frozen BK710.out 0; have hfz24_1 := blk_frozen BK710.out 1; have hfz24_2 := blk_frozen BK710.out 2) | ((with_reducible refine gate_callee (f := 67) rfl ?_); refine goesL_ (some 16) rfl rfl Tryz.func67 (by kernel_rfl) rfl #[.int .u8 a0_0] rfl (by (try simp only [List.map_toArray, List.map_cons, List.map_nil]); first | done | rfl | (simp only [List.length_drop, List.length_take]; rfl)) ?_; (with_reducible refine (warderref04_tag.calls a0_0 t711 _ A5.out).mono ?_); rintro e w' ⟨rfl, ⟨nd, rfl⟩⟩; refine ⟨_, rfl, ?_⟩))
     go_ret2
     exact ⟨_, by first | rfl | (simp [errW_none, errW_some] <;> rfl) | (simp [*, errW_none, errW_some] <;> rfl), by first | exact Kd.R_nil _ _ _ _ _ | exact Kd.N_nil _ _ _ _ _ | exact Kd.V_nil _ _ _ _ _ | exact Kd.Q_nil _ _ _ _ _ | exact Kd.S_nil _ _ _ _ _, by repeat (first | (with_reducible first | exact HB.out | apply below_alloc | apply pw_below_drewN | apply below_drew1 | refine below_set ?_ GE710.out) | exact HB.out)⟩
    ·rw [if_neg c22] at H
     have c22b0 : decide (0 < (l0_1.length : Int)) = false := decide_eq_false c22
     have c22b1 : decide (0 < l0_1.length) = false := decide_eq_false (by omega)
     clear c22
     have H' := Aside0.mk H
     clear H
     go_enter Tryz.func36, Tryz.ntmps36
     go_wp2_with (first | ((with_reducible refine gate_dst (N := 2) rfl ?_); refine box_event ?hg (N := 2) ?hd (cs := #[.int .u8 a0_0, .slice A0_1 l0_1.length c0_1, .slice A0_2 l0_2.length c0_2]) (t := 44) ?hr ?_; (case hd => rfl); (case hg => rfl); (case hr => first | (go_simp; done) | (go_simp; rfl)); intro gb710 hg w25 hbox hb; have n0_ := Aside0.mk (below_step (by repeat (first | (with_reducible first | exact HB.out | apply below_alloc | apply pw_below_drewN | apply below_drew1) | exact HB.out)) hb); have n1_ := Aside0.mk (hbox); have n2_ := Aside0.mk ((by rw [hg]; exact (below_size (by repeat (first | (with_reducible first | exact HB.out | apply below_alloc | apply pw_below_drewN | apply below_drew1) | exact HB.out))) : w.heap.size ≤ gb710)); have n3_ := Aside0.mk ((by rw [hg]; exact (below_size (by repeat (first | (with_reducible first | exact HB.out | apply below_alloc | apply pw_below_drewN | apply below_drew1) | exact HB.out))) : w.heap.size ≤ gb710)); clear HB; have HB := n0_; have BK710 := n1_; have GW710 := n2_; have GE710 := n3_; clear n0_ n1_ n2_ n3_; clear hb hbox hg; have hcz26_0 : w25.cell? ⟨gb710, 0, none⟩ = some (.int .u8 a0_0) := (blk_cell BK710.out 0).trans rfl; have hcz26_1 : w25.cell? ⟨gb710, 1, none⟩ = some (.slice A0_1 l0_1.length c0_1) := (blk_cell BK710.out 1).trans rfl; have hcz26_2 : w25.cell? ⟨gb710, 2, none⟩ = some (.slice A0_2 l0_2.length c0_2) := (blk_cell BK710.out 2).trans rfl; have hfz26_0 := blk_frozen BK710.out 0; have hfz26_1 := blk_frozen BK710.out 1; have hfz26_2 := blk_frozen BK710.out 2) | ((with_reducible refine gate_callee (f := 67) rfl ?_); refine goesL_ (some 16) rfl rfl Tryz.func67 (by kernel_rfl) rfl #[.int .u8 a0_0] rfl (by (try simp only [List.map_toArray, List.map_cons, List.map_nil]); first | done | rfl | (simp only [List.length_drop, List.length_take]; rfl)) ?_; (with_reducible refine (warderref04_tag.calls a0_0 t711 _ A5.out).mono ?_); rintro e w' ⟨rfl, ⟨nd, rfl⟩⟩; refine ⟨_, rfl, ?_⟩))
     go_loopg [7, 8, 9] k (fun kq v7 v8 v9 w' => ∃ (x7_1 : List (List Int)) (x8_1 : List Int) (x9_1 : Int), v9 = .int .i64 x9_1 ∧ Aside0 (warderref04_printed.l0 kq a1 x7_1 x8_1 x9_1 a0_0 l0_1 l0_2 = some (r1, r2)) ∧ Aside0 (kq ≤ k) ∧ Aside0 (Kd.S (Kd.slice 5 (Kd.int .u8)) 25 w' w.heap.size (fun k_ => some k_ ≠ (v8 : Value).ownBlock) v7 x7_1) ∧ Aside0 (Kd.R (Kd.int .u8) 5 w' w.heap.size (fun _ => True) v8 x8_1) ∧ Aside0 (w'.heap[gb710]? = some (.cells #[.int .u8 a0_0, (.slice A0_1 l0_1.length c0_1), (.slice A0_2 l0_2.length c0_2)] 44 (0, 0))) ∧ Aside0 (Below w.heap.size w w'))
     case atStart => exact ⟨(([] : List (List Int))), (([] : List Int)), (0), (by first | rfl | (simp; done) | (simp [*]; done)), H', ⟨Nat.le_refl _⟩, ⟨by first | exact Kd.S_nil _ _ _ _ _ | exact Kd.N_nil _ _ _ _ _ | exact Kd.V_nil _ _ _ _ _ | exact Kd.Q_nil _ _ _ _ _ | exact Kd.R_nil _ _ _ _ _⟩, ⟨by first | exact Kd.R_nil _ _ _ _ _ | exact Kd.N_nil _ _ _ _ _ | exact Kd.V_nil _ _ _ _ _ | exact Kd.Q_nil _ _ _ _ _ | exact Kd.S_nil _ _ _ _ _⟩, ⟨by (with_reducible repeat (first | refine blk_drewN ?_ _ | refine blk_drew ?_ | refine blk_alloc ?_ _)); exact BK710.out⟩, ⟨by repeat (first | (with_reducible first | exact HB.out | apply below_alloc | apply pw_below_drewN | apply below_drew1 | refine below_set ?_ GE710.out) | exact HB.out)⟩⟩
     case round =>
      clear H'
      try clear c1
      try clear c2
      try clear p2
      try clear c3
      try clear c3b0
      try clear c6
      try clear c6b0
      try clear c6b1
      try clear c7
      try clear c7b0
      try clear c7b1
      try clear c8
      try clear c8b0
      try clear c8b1
      try clear c12
      try clear c12b0
      try clear c12b1
      try clear c22
      try clear c22b0
      try clear c22b1
      try clear hcz10_0
      try clear hcz10_1
      try clear hcz10_2
      try clear hcz15_0
      try clear hcz15_1
      try clear hcz15_2
      try clear hcz17_0
      try clear hcz17_1
      try clear hcz17_2
      try clear hcz20_0
      try clear hcz20_1
      try clear hcz20_2
      try clear hcz24_0
      try clear hcz24_1
      try clear hcz24_2
      try clear hcz26_0
      try clear hcz26_1
      try clear hcz26_2
      try clear hfz10_0
      try clear hfz10_1
      try clear hfz10_2
      try clear hfz15_0
      try clear hfz15_1
      try clear hfz15_2
      try clear hfz17_0
      try clear hfz17_1
      try clear hfz17_2
      try clear hfz20_0
      try clear hfz20_1
      try clear hfz20_2
      try clear hfz24_0
      try clear hfz24_1
      try clear hfz24_2
      try clear hfz26_0
      try clear hfz26_1
      try clear hfz26_2
      obtain ⟨x7_1, x8_1, x9_1, rfl, HA, HK1, HO_7, HO_8, BK710, HB⟩ := hrel
      cases gk with
      | zero => exact absurd HA.out (by simp [warderref04_printed.l0])
      | succ k1 =>
       have H := HA.out
       clear HA
       simp only [warderref04_printed.l0] at H
       by_cases c27 : x9_1 < (l0_2.length : Int)
       ·rw [if_pos c27] at H
        have c27b0 : decide (x9_1 < (l0_2.length : Int)) = true := decide_eq_true c27
        clear c27
        by_cases c28 : 0 ≤ x9_1
        ·rw [if_pos c28] at H
         have c28b0 : decide (0 ≤ x9_1) = true := decide_eq_true c28
         clear c28
         replace H := Option.bind_eq_some_iff.mp H
         obtain ⟨⟨t718, t721⟩, A290, H⟩ := H
         replace H : (if t721 = 0 then (if x7_1.length < 5864062014805 then (if x8_1.length + t718.length < 140737488355328 then (warderref04_printed.l0 k1 a1 (x7_1 ++ [t718]) (x8_1 ++ t718) (wrap64 (x9_1 + 1)) a0_0 l0_1 l0_2) else (none)) else (none)) else (some (([] : List Int), t721))) = some (r1, r2) := H
         have A29 := Aside0.mk A290
         clear A290
         by_cases c30 : t721 = 0
         ·rw [if_pos c30] at H
          have c30b0 : (t721 == 0) = true := beq_iff_eq.mpr c30
          have c30b1 : (t721 != 0) = false := bne_eq_false_iff_eq.mpr c30
          clear c30
          by_cases c31 : x7_1.length < 5864062014805
          ·rw [if_pos c31] at H
           have LMc31 := Aside0.mk c31
           clear c31
           obtain ⟨y722, hy722⟩ : ∃ y_ : List (List Int), y_ = (x7_1 ++ [t718]) := ⟨_, rfl⟩
           replace H : (if x8_1.length + t718.length < 140737488355328 then (warderref04_printed.l0 k1 a1 y722 (x8_1 ++ t718) (wrap64 (x9_1 + 1)) a0_0 l0_1 l0_2) else (none)) = some (r1, r2) := by first | (rw [hy722]; with_reducible exact H) | (have H2_ := (Option.bind_some _ _).symm.trans H; rw [hy722]; with_reducible exact H2_) | (have H2_ := (Option.bind_some _ _).symm.trans H; with_reducible exact H2_) | with_reducible exact H | (rw [hy722]; exact H) | exact H
           have Ny722 := Aside0.mk hy722
           clear hy722
           by_cases c32 : x8_1.length + t718.length < 140737488355328
           ·rw [if_pos c32] at H
            have LMc32 := Aside0.mk c32
            clear c32
            obtain ⟨y725, hy725⟩ : ∃ y_ : List Int, y_ = (x8_1 ++ t718) := ⟨_, rfl⟩
            replace H : (warderref04_printed.l0 k1 a1 y722 y725 (wrap64 (x9_1 + 1)) a0_0 l0_1 l0_2) = some (r1, r2) := by first | (rw [hy725]; with_reducible exact H) | (have H2_ := (Option.bind_some _ _).symm.trans H; rw [hy725]; with_reducible exact H2_) | (have H2_ := (Option.bind_some _ _).symm.trans H; with_reducible exact H2_) | with_reducible exact H | (rw [hy725]; exact H) | exact H
            have Ny725 := Aside0.mk hy725
            clear hy725
            have H' := Aside0.mk H
            clear H
            have hcz33_0 : wr.cell? ⟨gb710, 0, none⟩ = some (.int .u8 a0_0) := (blk_cell BK710.out 0).trans rfl
            have hcz33_1 : wr.cell? ⟨gb710, 1, none⟩ = some (.slice A0_1 l0_1.length c0_1) := (blk_cell BK710.out 1).trans rfl
            have hcz33_2 : wr.cell? ⟨gb710, 2, none⟩ = some (.slice A0_2 l0_2.length c0_2) := (blk_cell BK710.out 2).trans rfl
            have hfz33_0 := blk_frozen BK710.out 0
            have hfz33_1 := blk_frozen BK710.out 1
            have hfz33_2 := blk_frozen BK710.out 2
            have p717 : 0 ≤ (x9_1 : Int) := of_decide_eq_true (by first | (with_reducible assumption) | assumption)
            have q717 : x9_1 < (l0_2.length : Int) := of_decide_eq_true (by first | (with_reducible assumption) | assumption)
            obtain ⟨ad717, A717_1, c717_1, A717_2, c717_2, e717, hx717_0, hx717_1, hx717_2, hl717_1, hi717_1, hl717_2, hi717_2⟩ := at_T44 HR0_2.out x9_1 p717 q717
            cases e717
            replace hx717_0 := (HB.out.cell (World.block_lt_of_cell? w _ hx717_0)).trans hx717_0
            replace hx717_1 := (HB.out.cell (World.block_lt_of_cell? w _ hx717_1)).trans hx717_1
            replace hx717_2 := (HB.out.cell (World.block_lt_of_cell? w _ hx717_2)).trans hx717_2
            have HR717_1 := Aside0.mk hi717_1
            have HC717_1 := Aside0.mk hl717_1
            clear hi717_1 hl717_1
            have HR717_2 := Aside0.mk hi717_2
            have HC717_2 := Aside0.mk hl717_2
            clear hi717_2 hl717_2
            replace p717 := eq_true p717
            replace q717 := eq_true q717
            go_wp2_with (first | ((with_reducible refine gate_callee (f := 36) rfl ?_); refine goesL_ (some 62) rfl rfl Tryz.func36 (by kernel_rfl) rfl #[.agg #[.int .u8 ((rd_T44 l0_2 x9_1).f0), .slice A717_1 ((rd_T44 l0_2 x9_1).f1).length c717_1, .slice A717_2 ((rd_T44 l0_2 x9_1).f2).length c717_2], .int .i64 (wrap64 (a1 + 1))] rfl (by (try simp only [List.map_toArray, List.map_cons, List.map_nil]); first | done | rfl | (simp only [List.length_drop, List.length_take]; rfl)) ?_; (with_reducible refine (ih k1 (by have := HK1.out; omega) ((rd_T44 l0_2 x9_1).f0) _ _ ((rd_T44 l0_2 x9_1).f1) _ _ ((rd_T44 l0_2 x9_1).f2) (wrap64 (a1 + 1)) t718 t721 _ ?side1 ?side2 ?side3 ?side4 A29.out).mono ?_); (case side1 => repeat (first | exact (Kd.C_below HR717_1.out HB.out) | (with_reducible refine Kd.C_alloc ?_ _) | (with_reducible refine Kd.C_drewN ?_ _) | (with_reducible refine Kd.C_drew ?_))); (case side2 => exact HC717_1.out); (case side3 => repeat (first | exact (Kd.C_below HR717_2.out HB.out) | (with_reducible refine Kd.C_alloc ?_ _) | (with_reducible refine Kd.C_drewN ?_ _) | (with_reducible refine Kd.C_drew ?_))); (case side4 => exact HC717_2.out); rintro e w34 ⟨v719, rfl, ho0, hb⟩; refine ⟨_, rfl, ?_⟩; have n0_ := Aside0.mk (Kd.S_elder' (by (with_reducible repeat (first | apply Kd.S_alloc | apply Kd.S_drewN | apply Kd.S_drew)); exact HO_7.out) (Kd.R_base ho0) hb); have n1_ := Aside0.mk (Kd.R_elder' (by (with_reducible repeat (first | apply Kd.R_alloc | apply Kd.R_drewN | apply Kd.R_drew)); exact HO_8.out) (Kd.R_base ho0) hb); have n2_ := Aside0.mk (Kd.R_lower (Kd.R_new' ho0 (Kd.R_lt (by (with_reducible repeat (first | apply Kd.R_alloc | apply Kd.R_drewN | apply Kd.R_drew)); exact HO_8.out))) (below_size (by repeat (first | (with_reducible first | exact HB.out | apply below_alloc | apply pw_below_drewN | apply below_drew1 | refine below_set ?_ GE710.out) | exact HB.out)))); have n3_ := Aside0.mk (blk_below (g := gb710) (o := .cells #[.int .u8 a0_0, .slice A0_1 l0_1.length c0_1, .slice (some ad717) l0_2.length c0_2] 44 (0, 0)) (by (with_reducible repeat (first | refine blk_drewN ?_ _ | refine blk_drew ?_ | refine blk_alloc ?_ _)); exact BK710.out) hb); have n4_ := Aside0.mk (below_step (by repeat (first | (with_reducible first | exact HB.out | apply below_alloc | apply pw_below_drewN | apply below_drew1 | refine below_set ?_ GE710.out) | exact HB.out)) hb); clear HO_7; clear HO_8; clear BK710; clear HB; have HO_7 := n0_; have HO_8 := n1_; have HO720 := n2_; have BK710 := n3_; have HB := n4_; clear n0_ n1_ n2_ n3_ n4_; (try clear hb); (try clear hb2); (try clear hk); (try clear hi); (try clear ho0); obtain ⟨Ao36, co36, eo36⟩ := Kd.R_slice HO720.out; subst eo36) | ((with_reducible refine gate_builtin (b := .append) (xs := #[.tmp 68, .tmp 70]) rfl ?_); at_builtin; refine Kd.S_append (Kd.slice 5 (Kd.int .u8)) (w0 := w) w.heap.size rfl (.tmp 68) (.tmp 70) 99 25 (.slice none 0 0) 24 rfl Tryz.underlying99 info25 rfl (by decide) (by omega) u7 x7_1 t718 [.slice Ao36 t718.length co36] (fun k_ => some k_ ≠ (u8 : Value).ownBlock) (fun k_ => some k_ = (.slice Ao36 t718.length co36 : Value).ownBlock) rfl rfl ?aP (fun k_ hk_ => ((Kd.R_mono (ok' := fun k_ => ((fun k_ => some k_ ≠ (u8 : Value).ownBlock)) k_ ∧ some k_ ≠ (u7 : Value).ownBlock) (Kd.R_apart' (HO720.out) (Kd.S_typed HO_7.out) (by decide)) (fun k_ hk => ⟨hk.1.2, hk.2⟩))).1 k_ hk_.symm) ?aF ?aO ?aB ?aS ?aL ?_; (case aP => exact Kd.M_row (Kd.R_mono (Kd.R_tight rfl (Kd.R_mono (ok' := fun k_ => ((fun k_ => some k_ ≠ (u8 : Value).ownBlock)) k_ ∧ some k_ ≠ (u7 : Value).ownBlock) (Kd.R_apart' (HO720.out) (Kd.S_typed HO_7.out) (by decide)) (fun k_ hk => ⟨hk.1.2, hk.2⟩))) (fun _ h_ => h_))); (case aB => exact (by repeat (first | (with_reducible first | exact HB.out | apply below_alloc | apply pw_below_drewN | apply below_drew1 | refine below_set ?_ GE710.out) | exact HB.out))); (case aF => exact (fun k_ hk => Kd.fresh' (Kd.R_lt (by (with_reducible repeat (first | apply Kd.R_alloc | apply Kd.R_drewN | apply Kd.R_drew)); exact HO_8.out)) k_ hk)); (case aO => exact (by (with_reducible repeat (first | apply Kd.S_alloc | apply Kd.S_drewN | apply Kd.S_drew)); exact Kd.S_mono HO_7.out (fun k_ hk => ⟨hk.1, fun e_ => hk.2 e_⟩))); (case aS => exact (below_size (by repeat (first | (with_reducible first | exact HB.out | apply below_alloc | apply pw_below_drewN | apply below_drew1 | refine below_set ?_ GE710.out) | exact HB.out)))); (case aL => have := LMc31.out; omega); intro v723 w35 ho hb hg hat; rw [← Ny722.out] at ho; have n0_ := Aside0.mk (Kd.R_over' (by (with_reducible repeat (first | apply Kd.R_alloc | apply Kd.R_drewN | apply Kd.R_drew)); exact HO_8.out) (Kd.S_typed (by (with_reducible repeat (first | apply Kd.S_alloc | apply Kd.S_drewN | apply Kd.S_drew)); exact HO_7.out)) (by decide) hg); have n1_ := Aside0.mk (blk_grown (g := gb710) (o := .cells #[.int .u8 a0_0, .slice A0_1 l0_1.length c0_1, .slice (some ad717) l0_2.length c0_2] 44 (0, 0)) (by (with_reducible repeat (first | refine blk_drewN ?_ _ | refine blk_drew ?_ | refine blk_alloc ?_ _)); exact BK710.out) hg (Kd.S_ne HO_7.out BK710.out (by decide))); have n2_ := Aside0.mk (hb); have n3_ := Aside0.mk (ho); replace HO720 := Aside0.mk (Kd.R_over' HO720.out (Kd.S_typed (by (with_reducible repeat (first | apply Kd.S_alloc | apply Kd.S_drewN | apply Kd.S_drew)); exact HO_7.out)) (by decide) hg); clear HO_8; clear BK710; clear HB; clear HO_7; have HO_8 := n0_; have BK710 := n1_; have HB := n2_; have HO724 := n3_; clear n0_ n1_ n2_ n3_; clear ho hb hg hat) | ((with_reducible refine gate_builtin (b := .append) (xs := #[.tmp 72, .tmp 73]) rfl ?_); at_builtin; refine Kd.R_append_rows (Kd.int .u8) (w0 := w) w.heap.size rfl (.tmp 72) (.tmp 73) 25 5 (.int .u8 0) 1 rfl Tryz.underlying25 info5 rfl (by decide) (by omega) u8 x8_1 t718 _ _ _ (fun _ => True) (fun _ => False) rfl rfl ?aO ?aR (fun _ _ h => h) (fun _ h => h.elim) ?aF ?aB ?aS ?aL ?_; (case aR => repeat (first | exact (Kd.R_reads' HO720.out).2.2 | (with_reducible refine Kd.C_alloc ?_ _) | (with_reducible refine Kd.C_drewN ?_ _) | (with_reducible refine Kd.C_drew ?_))); (case aB => exact (by repeat (first | (with_reducible first | exact HB.out | apply below_alloc | apply pw_below_drewN | apply below_drew1 | refine below_set ?_ GE710.out) | exact HB.out))); (case aF => exact (fun _ _ => trivial)); (case aO => exact (by (with_reducible repeat (first | apply Kd.R_alloc | apply Kd.R_drewN | apply Kd.R_drew)); exact Kd.R_mono HO_8.out (fun _ hk => trivial))); (case aS => exact (below_size (by repeat (first | (with_reducible first | exact HB.out | apply below_alloc | apply pw_below_drewN | apply below_drew1 | refine below_set ?_ GE710.out) | exact HB.out)))); (case aL => have := LMc32.out; omega); intro v726 w37 ho hb hg hat; rw [← Ny725.out] at ho; have n0_ := Aside0.mk (blk_grown (g := gb710) (o := .cells #[.int .u8 a0_0, .slice A0_1 l0_1.length c0_1, .slice (some ad717) l0_2.length c0_2] 44 (0, 0)) (by (with_reducible repeat (first | refine blk_drewN ?_ _ | refine blk_drew ?_ | refine blk_alloc ?_ _)); exact BK710.out) hg (Kd.R_ne HO_8.out BK710.out (by decide))); have n1_ := Aside0.mk (Kd.S_after (ok := (fun _ => True)) (by (with_reducible repeat (first | apply Kd.S_alloc | apply Kd.S_drewN | apply Kd.S_drew)); exact Kd.S_mono HO724.out (fun _ hk => ⟨trivial, hk⟩)) hg hat); have n2_ := Aside0.mk (hb); have n3_ := Aside0.mk (ho); clear BK710; clear HO724; clear HB; clear HO_8; have BK710 := n0_; have HO724 := n1_; have HB := n2_; have HO727 := n3_; clear n0_ n1_ n2_ n3_; clear ho hb hg hat))
            go_roundg k1
            case measure => have := HK1.out; omega
            case rel => exact ⟨(y722), (y725), (wrap64 (x9_1 + 1)), (by first | rfl | (simp; done) | (simp [*]; done)), H', ⟨by have := HK1.out; omega⟩, ⟨by (with_reducible repeat (first | apply Kd.S_alloc | apply Kd.S_drewN | apply Kd.S_drew)); exact Kd.S_mono HO724.out (fun _ hk => hk.2)⟩, ⟨by (with_reducible repeat (first | apply Kd.R_alloc | apply Kd.R_drewN | apply Kd.R_drew)); exact HO727.out⟩, ⟨by (with_reducible repeat (first | refine blk_drewN ?_ _ | refine blk_drew ?_ | refine blk_alloc ?_ _)); exact BK710.out⟩, ⟨by repeat (first | (with_reducible first | exact HB.out | apply below_alloc | apply pw_below_drewN | apply below_drew1 | refine below_set ?_ GE710.out) | exact HB.out)⟩⟩
           ·rw [if_neg c32] at H
            exact absurd H (by simp)
          ·rw [if_neg c31] at H
           exact absurd H (by simp)
         ·rw [if_neg c30] at H
          have c30b0 : (t721 == 0) = false := beq_eq_false_iff_ne.mpr c30
          have c30b1 : (t721 != 0) = true := bne_iff_ne.mpr c30
          simp only [Option.some.injEq, Prod.mk.injEq] at H
          obtain ⟨rfl, rfl⟩ := H
          have hcz38_0 : wr.cell? ⟨gb710, 0, none⟩ = some (.int .u8 a0_0) := (blk_cell BK710.out 0).trans rfl
          have hcz38_1 : wr.cell? ⟨gb710, 1, none⟩ = some (.slice A0_1 l0_1.length c0_1) := (blk_cell BK710.out 1).trans rfl
          have hcz38_2 : wr.cell? ⟨gb710, 2, none⟩ = some (.slice A0_2 l0_2.length c0_2) := (blk_cell BK710.out 2).trans rfl
          have hfz38_0 := blk_frozen BK710.out 0
          have hfz38_1 := blk_frozen BK710.out 1
          have hfz38_2 := blk_frozen BK710.out 2
          have p717 : 0 ≤ (x9_1 : Int) := of_decide_eq_true (by first | (with_reducible assumption) | assumption)
          have q717 : x9_1 < (l0_2.length : Int) := of_decide_eq_true (by first | (with_reducible assumption) | assumption)
          obtain ⟨ad717, A717_1, c717_1, A717_2, c717_2, e717, hx717_0, hx717_1, hx717_2, hl717_1, hi717_1, hl717_2, hi717_2⟩ := at_T44 HR0_2.out x9_1 p717 q717
          cases e717
          replace hx717_0 := (HB.out.cell (World.block_lt_of_cell? w _ hx717_0)).trans hx717_0
          replace hx717_1 := (HB.out.cell (World.block_lt_of_cell? w _ hx717_1)).trans hx717_1
          replace hx717_2 := (HB.out.cell (World.block_lt_of_cell? w _ hx717_2)).trans hx717_2
          have HR717_1 := Aside0.mk hi717_1
          have HC717_1 := Aside0.mk hl717_1
          clear hi717_1 hl717_1
          have HR717_2 := Aside0.mk hi717_2
          have HC717_2 := Aside0.mk hl717_2
          clear hi717_2 hl717_2
          replace p717 := eq_true p717
          replace q717 := eq_true q717
          go_wp2_with (first | ((with_reducible refine gate_callee (f := 36) rfl ?_); refine goesL_ (some 62) rfl rfl Tryz.func36 (by kernel_rfl) rfl #[.agg #[.int .u8 ((rd_T44 l0_2 x9_1).f0), .slice A717_1 ((rd_T44 l0_2 x9_1).f1).length c717_1, .slice A717_2 ((rd_T44 l0_2 x9_1).f2).length c717_2], .int .i64 (wrap64 (a1 + 1))] rfl (by (try simp only [List.map_toArray, List.map_cons, List.map_nil]); first | done | rfl | (simp only [List.length_drop, List.length_take]; rfl)) ?_; (with_reducible refine (ih k1 (by have := HK1.out; omega) ((rd_T44 l0_2 x9_1).f0) _ _ ((rd_T44 l0_2 x9_1).f1) _ _ ((rd_T44 l0_2 x9_1).f2) (wrap64 (a1 + 1)) t718 t721 _ ?side1 ?side2 ?side3 ?side4 A29.out).mono ?_); (case side1 => repeat (first | exact (Kd.C_below HR717_1.out HB.out) | (with_reducible refine Kd.C_alloc ?_ _) | (with_reducible refine Kd.C_drewN ?_ _) | (with_reducible refine Kd.C_drew ?_))); (case side2 => exact HC717_1.out); (case side3 => repeat (first | exact (Kd.C_below HR717_2.out HB.out) | (with_reducible refine Kd.C_alloc ?_ _) | (with_reducible refine Kd.C_drewN ?_ _) | (with_reducible refine Kd.C_drew ?_))); (case side4 => exact HC717_2.out); rintro e w39 ⟨v719, rfl, ho0, hb⟩; refine ⟨_, rfl, ?_⟩; have n0_ := Aside0.mk (Kd.S_elder' (by (with_reducible repeat (first | apply Kd.S_alloc | apply Kd.S_drewN | apply Kd.S_drew)); exact HO_7.out) (Kd.R_base ho0) hb); have n1_ := Aside0.mk (Kd.R_elder' (by (with_reducible repeat (first | apply Kd.R_alloc | apply Kd.R_drewN | apply Kd.R_drew)); exact HO_8.out) (Kd.R_base ho0) hb); have n2_ := Aside0.mk (Kd.R_lower (Kd.R_new' ho0 (Kd.R_lt (by (with_reducible repeat (first | apply Kd.R_alloc | apply Kd.R_drewN | apply Kd.R_drew)); exact HO_8.out))) (below_size (by repeat (first | (with_reducible first | exact HB.out | apply below_alloc | apply pw_below_drewN | apply below_drew1 | refine below_set ?_ GE710.out) | exact HB.out)))); have n3_ := Aside0.mk (blk_below (g := gb710) (o := .cells #[.int .u8 a0_0, .slice A0_1 l0_1.length c0_1, .slice (some ad717) l0_2.length c0_2] 44 (0, 0)) (by (with_reducible repeat (first | refine blk_drewN ?_ _ | refine blk_drew ?_ | refine blk_alloc ?_ _)); exact BK710.out) hb); have n4_ := Aside0.mk (below_step (by repeat (first | (with_reducible first | exact HB.out | apply below_alloc | apply pw_below_drewN | apply below_drew1 | refine below_set ?_ GE710.out) | exact HB.out)) hb); clear HO_7; clear HO_8; clear BK710; clear HB; have HO_7 := n0_; have HO_8 := n1_; have HO720 := n2_; have BK710 := n3_; have HB := n4_; clear n0_ n1_ n2_ n3_ n4_; (try clear hb); (try clear hb2); (try clear hk); (try clear hi); (try clear ho0)))
          go_ret2
          exact ⟨_, by first | rfl | (simp [errW_none, errW_some] <;> rfl) | (simp [*, errW_none, errW_some] <;> rfl), by first | exact Kd.R_nil _ _ _ _ _ | exact Kd.N_nil _ _ _ _ _ | exact Kd.V_nil _ _ _ _ _ | exact Kd.Q_nil _ _ _ _ _ | exact Kd.S_nil _ _ _ _ _, by repeat (first | (with_reducible first | exact HB.out | apply below_alloc | apply pw_below_drewN | apply below_drew1 | refine below_set ?_ GE710.out) | exact HB.out)⟩
        ·rw [if_neg c28] at H
         exact absurd H (by simp)
       ·rw [if_neg c27] at H
        have c27b0 : decide (x9_1 < (l0_2.length : Int)) = false := decide_eq_false c27
        clear c27
        by_cases c40 : a0_0 = 49
        ·rw [if_pos c40] at H
         have c40b0 : (a0_0 == 49) = true := beq_iff_eq.mpr c40
         have c40b1 : (a0_0 != 49) = false := bne_eq_false_iff_eq.mpr c40
         clear c40
         replace H := Option.bind_eq_some_iff.mp H
         obtain ⟨t728, A410, H⟩ := H
         replace H : (if t728 = true then ((warderref01_Put.f a0_0 x8_1).bind fun bt729 => (some (bt729.1, bt729.2))) else (some (([] : List Int), 42))) = some (r1, r2) := H
         have A41 := Aside0.mk A410
         clear A410
         by_cases c42 : t728 = true
         ·subst c42
          have H1 : ((warderref01_Put.f a0_0 x8_1).bind fun bt729 => (some (bt729.1, bt729.2))) = some (r1, r2) := by rw [if_pos rfl] at H; exact H
          clear H
          have H := H1
          clear H1
          replace H := Option.bind_eq_some_iff.mp H
          obtain ⟨⟨t729, t730⟩, A430, H⟩ := H
          replace H : (some (t729, t730)) = some (r1, r2) := H
          have A43 := Aside0.mk A430
          clear A430
          simp only [Option.some.injEq, Prod.mk.injEq] at H
          obtain ⟨rfl, rfl⟩ := H
          have hcz44_0 : wr.cell? ⟨gb710, 0, none⟩ = some (.int .u8 a0_0) := (blk_cell BK710.out 0).trans rfl
          have hcz44_1 : wr.cell? ⟨gb710, 1, none⟩ = some (.slice A0_1 l0_1.length c0_1) := (blk_cell BK710.out 1).trans rfl
          have hcz44_2 : wr.cell? ⟨gb710, 2, none⟩ = some (.slice A0_2 l0_2.length c0_2) := (blk_cell BK710.out 2).trans rfl
          have hfz44_0 := blk_frozen BK710.out 0
          have hfz44_1 := blk_frozen BK710.out 1
          have hfz44_2 := blk_frozen BK710.out 2
          obtain ⟨Ao45, co45, eo45⟩ := Kd.S_slice HO_7.out
          subst eo45
          go_wp2_with (first | (go_at_call 70; (with_reducible refine (warderref04_rising.calls _ _ x7_1 true _ ?side1 ?side2 A41.out).mono ?_); (case side1 => repeat (first | exact (Kd.S_reads' HO_7.out).2.2 | (with_reducible refine Kd.C_alloc ?_ _) | (with_reducible refine Kd.C_drewN ?_ _) | (with_reducible refine Kd.C_drew ?_))); (case side2 => exact (Kd.S_reads' HO_7.out).2.1); rintro e w' ⟨rfl, ⟨nd, rfl⟩⟩; obtain ⟨Ao46, co46, eo46⟩ := Kd.R_slice HO_8.out; subst eo46) | ((with_reducible refine gate_callee (f := 69) rfl ?_); refine goesL_ (some 86) rfl rfl Tryz.func69 (by kernel_rfl) rfl #[.int .u8 a0_0, .slice Ao46 x8_1.length co46] rfl (by (try simp only [List.map_toArray, List.map_cons, List.map_nil]); first | done | rfl | (simp only [List.length_drop, List.length_take]; rfl)) ?_; (with_reducible refine (warderref01_Put.calls a0_0 _ _ x8_1 t729 t730 _ ?side1 ?side2 A43.out).mono ?_); (case side1 => repeat (first | exact (Kd.R_reads' HO_8.out).2.2 | (with_reducible refine Kd.C_alloc ?_ _) | (with_reducible refine Kd.C_drewN ?_ _) | (with_reducible refine Kd.C_drew ?_))); (case side2 => exact (Kd.R_reads' HO_8.out).2.1); rintro e w47 ⟨v731, rfl, ho0, hb⟩; refine ⟨_, rfl, ?_⟩; have n0_ := Aside0.mk (Kd.S_elder' (by (with_reducible repeat (first | apply Kd.S_alloc | apply Kd.S_drewN | apply Kd.S_drew)); exact HO_7.out) (Kd.R_base ho0) hb); have n1_ := Aside0.mk (Kd.R_elder' (by (with_reducible repeat (first | apply Kd.R_alloc | apply Kd.R_drewN | apply Kd.R_drew)); exact HO_8.out) (Kd.R_base ho0) hb); have n2_ := Aside0.mk (Kd.R_lower (Kd.R_new' ho0 (Kd.R_lt (by (with_reducible repeat (first | apply Kd.R_alloc | apply Kd.R_drewN | apply Kd.R_drew)); exact HO_8.out))) (below_size (by repeat (first | (with_reducible first | exact HB.out | apply below_alloc | apply pw_below_drewN | apply below_drew1 | refine below_set ?_ GE710.out) | exact HB.out)))); have n3_ := Aside0.mk (blk_below (g := gb710) (o := .cells #[.int .u8 a0_0, .slice A0_1 l0_1.length c0_1, .slice A0_2 l0_2.length c0_2] 44 (0, 0)) (by (with_reducible repeat (first | refine blk_drewN ?_ _ | refine blk_drew ?_ | refine blk_alloc ?_ _)); exact BK710.out) hb); have n4_ := Aside0.mk (below_step (by repeat (first | (with_reducible first | exact HB.out | apply below_alloc | apply pw_below_drewN | apply below_drew1 | refine below_set ?_ GE710.out) | exact HB.out)) hb); clear HO_7; clear HO_8; clear BK710; clear HB; have HO_7 := n0_; have HO_8 := n1_; have HO732 := n2_; have BK710 := n3_; have HB := n4_; clear n0_ n1_ n2_ n3_ n4_; (try clear hb); (try clear hb2); (try clear hk); (try clear hi); (try clear ho0)))
          go_ret2
          exact ⟨_, by first | rfl | (simp [errW_none, errW_some] <;> rfl) | (simp [*, errW_none, errW_some] <;> rfl), by (with_reducible repeat (first | apply Kd.R_alloc | apply Kd.R_drewN | apply Kd.R_drew)); exact Kd.R_mono HO732.out (fun _ hk => trivial), by repeat (first | (with_reducible first | exact HB.out | apply below_alloc | apply pw_below_drewN | apply below_drew1 | refine below_set ?_ GE710.out) | exact HB.out)⟩
         ·replace c42 := Bool.eq_false_iff.mpr c42
          subst c42
          have H1 : (some (([] : List Int), 42)) = some (r1, r2) := by rw [if_neg (show ¬ (false = true) by decide)] at H; exact H
          clear H
          have H := H1
          clear H1
          simp only [Option.some.injEq, Prod.mk.injEq] at H
          obtain ⟨rfl, rfl⟩ := H
          have hcz48_0 : wr.cell? ⟨gb710, 0, none⟩ = some (.int .u8 a0_0) := (blk_cell BK710.out 0).trans rfl
          have hcz48_1 : wr.cell? ⟨gb710, 1, none⟩ = some (.slice A0_1 l0_1.length c0_1) := (blk_cell BK710.out 1).trans rfl
          have hcz48_2 : wr.cell? ⟨gb710, 2, none⟩ = some (.slice A0_2 l0_2.length c0_2) := (blk_cell BK710.out 2).trans rfl
          have hfz48_0 := blk_frozen BK710.out 0
          have hfz48_1 := blk_frozen BK710.out 1
          have hfz48_2 := blk_frozen BK710.out 2
          obtain ⟨Ao49, co49, eo49⟩ := Kd.S_slice HO_7.out
          subst eo49
          go_wp2_with (first | (go_at_call 70; (with_reducible refine (warderref04_rising.calls _ _ x7_1 false _ ?side1 ?side2 A41.out).mono ?_); (case side1 => repeat (first | exact (Kd.S_reads' HO_7.out).2.2 | (with_reducible refine Kd.C_alloc ?_ _) | (with_reducible refine Kd.C_drewN ?_ _) | (with_reducible refine Kd.C_drew ?_))); (case side2 => exact (Kd.S_reads' HO_7.out).2.1); rintro e w' ⟨rfl, ⟨nd, rfl⟩⟩))
          go_ret2
          exact ⟨_, by first | rfl | (simp [errW_none, errW_some] <;> rfl) | (simp [*, errW_none, errW_some] <;> rfl), by first | exact Kd.R_nil _ _ _ _ _ | exact Kd.N_nil _ _ _ _ _ | exact Kd.V_nil _ _ _ _ _ | exact Kd.Q_nil _ _ _ _ _ | exact Kd.S_nil _ _ _ _ _, by repeat (first | (with_reducible first | exact HB.out | apply below_alloc | apply pw_below_drewN | apply below_drew1 | refine below_set ?_ GE710.out) | exact HB.out)⟩
        ·rw [if_neg c40] at H
         have c40b0 : (a0_0 == 49) = false := beq_eq_false_iff_ne.mpr c40
         have c40b1 : (a0_0 != 49) = true := bne_iff_ne.mpr c40
         replace H := Option.bind_eq_some_iff.mp H
         obtain ⟨⟨t733, t734⟩, A500, H⟩ := H
         replace H : (some (t733, t734)) = some (r1, r2) := H
         have A50 := Aside0.mk A500
         clear A500
         simp only [Option.some.injEq, Prod.mk.injEq] at H
         obtain ⟨rfl, rfl⟩ := H
         have hcz51_0 : wr.cell? ⟨gb710, 0, none⟩ = some (.int .u8 a0_0) := (blk_cell BK710.out 0).trans rfl
         have hcz51_1 : wr.cell? ⟨gb710, 1, none⟩ = some (.slice A0_1 l0_1.length c0_1) := (blk_cell BK710.out 1).trans rfl
         have hcz51_2 : wr.cell? ⟨gb710, 2, none⟩ = some (.slice A0_2 l0_2.length c0_2) := (blk_cell BK710.out 2).trans rfl
         have hfz51_0 := blk_frozen BK710.out 0
         have hfz51_1 := blk_frozen BK710.out 1
         have hfz51_2 := blk_frozen BK710.out 2
         obtain ⟨Ao52, co52, eo52⟩ := Kd.R_slice HO_8.out
         subst eo52
         go_wp2_with (first | ((with_reducible refine gate_callee (f := 69) rfl ?_); refine goesL_ (some 86) rfl rfl Tryz.func69 (by kernel_rfl) rfl #[.int .u8 a0_0, .slice Ao52 x8_1.length co52] rfl (by (try simp only [List.map_toArray, List.map_cons, List.map_nil]); first | done | rfl | (simp only [List.length_drop, List.length_take]; rfl)) ?_; (with_reducible refine (warderref01_Put.calls a0_0 _ _ x8_1 t733 t734 _ ?side1 ?side2 A50.out).mono ?_); (case side1 => repeat (first | exact (Kd.R_reads' HO_8.out).2.2 | (with_reducible refine Kd.C_alloc ?_ _) | (with_reducible refine Kd.C_drewN ?_ _) | (with_reducible refine Kd.C_drew ?_))); (case side2 => exact (Kd.R_reads' HO_8.out).2.1); rintro e w53 ⟨v735, rfl, ho0, hb⟩; refine ⟨_, rfl, ?_⟩; have n0_ := Aside0.mk (Kd.S_elder' (by (with_reducible repeat (first | apply Kd.S_alloc | apply Kd.S_drewN | apply Kd.S_drew)); exact HO_7.out) (Kd.R_base ho0) hb); have n1_ := Aside0.mk (Kd.R_elder' (by (with_reducible repeat (first | apply Kd.R_alloc | apply Kd.R_drewN | apply Kd.R_drew)); exact HO_8.out) (Kd.R_base ho0) hb); have n2_ := Aside0.mk (Kd.R_lower (Kd.R_new' ho0 (Kd.R_lt (by (with_reducible repeat (first | apply Kd.R_alloc | apply Kd.R_drewN | apply Kd.R_drew)); exact HO_8.out))) (below_size (by repeat (first | (with_reducible first | exact HB.out | apply below_alloc | apply pw_below_drewN | apply below_drew1 | refine below_set ?_ GE710.out) | exact HB.out)))); have n3_ := Aside0.mk (blk_below (g := gb710) (o := .cells #[.int .u8 a0_0, .slice A0_1 l0_1.length c0_1, .slice A0_2 l0_2.length c0_2] 44 (0, 0)) (by (with_reducible repeat (first | refine blk_drewN ?_ _ | refine blk_drew ?_ | refine blk_alloc ?_ _)); exact BK710.out) hb); have n4_ := Aside0.mk (below_step (by repeat (first | (with_reducible first | exact HB.out | apply below_alloc | apply pw_below_drewN | apply below_drew1 | refine below_set ?_ GE710.out) | exact HB.out)) hb); clear HO_7; clear HO_8; clear BK710; clear HB; have HO_7 := n0_; have HO_8 := n1_; have HO736 := n2_; have BK710 := n3_; have HB := n4_; clear n0_ n1_ n2_ n3_ n4_; (try clear hb); (try clear hb2); (try clear hk); (try clear hi); (try clear ho0)))
         go_ret2
         exact ⟨_, by first | rfl | (simp [errW_none, errW_some] <;> rfl) | (simp [*, errW_none, errW_some] <;> rfl), by (with_reducible repeat (first | apply Kd.R_alloc | apply Kd.R_drewN | apply Kd.R_drew)); exact Kd.R_mono HO736.out (fun _ hk => trivial), by repeat (first | (with_reducible first | exact HB.out | apply below_alloc | apply pw_below_drewN | apply below_drew1 | refine below_set ?_ GE710.out) | exact HB.out)⟩
  ·rw [if_neg c6] at H
   have c6b0 : (t711 == 0) = false := beq_eq_false_iff_ne.mpr c6
   have c6b1 : (t711 != 0) = true := bne_iff_ne.mpr c6
   simp only [Option.some.injEq, Prod.mk.injEq] at H
   obtain ⟨rfl, rfl⟩ := H
   go_enter Tryz.func36, Tryz.ntmps36
   go_wp2_with (first | ((with_reducible refine gate_dst (N := 2) rfl ?_); refine box_event ?hg (N := 2) ?hd (cs := #[.int .u8 a0_0, .slice A0_1 l0_1.length c0_1, .slice A0_2 l0_2.length c0_2]) (t := 44) ?hr ?_; (case hd => rfl); (case hg => rfl); (case hr => first | (go_simp; done) | (go_simp; rfl)); intro gb710 hg w54 hbox hb; have n0_ := Aside0.mk (below_step (by repeat (first | (with_reducible first | exact HB.out | apply below_alloc | apply pw_below_drewN | apply below_drew1) | exact HB.out)) hb); have n1_ := Aside0.mk (hbox); have n2_ := Aside0.mk ((by rw [hg]; exact (below_size (by repeat (first | (with_reducible first | exact HB.out | apply below_alloc | apply pw_below_drewN | apply below_drew1) | exact HB.out))) : w.heap.size ≤ gb710)); have n3_ := Aside0.mk ((by rw [hg]; exact (below_size (by repeat (first | (with_reducible first | exact HB.out | apply below_alloc | apply pw_below_drewN | apply below_drew1) | exact HB.out))) : w.heap.size ≤ gb710)); clear HB; have HB := n0_; have BK710 := n1_; have GW710 := n2_; have GE710 := n3_; clear n0_ n1_ n2_ n3_; clear hb hbox hg; have hcz55_0 : w54.cell? ⟨gb710, 0, none⟩ = some (.int .u8 a0_0) := (blk_cell BK710.out 0).trans rfl; have hcz55_1 : w54.cell? ⟨gb710, 1, none⟩ = some (.slice A0_1 l0_1.length c0_1) := (blk_cell BK710.out 1).trans rfl; have hcz55_2 : w54.cell? ⟨gb710, 2, none⟩ = some (.slice A0_2 l0_2.length c0_2) := (blk_cell BK710.out 2).trans rfl; have hfz55_0 := blk_frozen BK710.out 0; have hfz55_1 := blk_frozen BK710.out 1; have hfz55_2 := blk_frozen BK710.out 2) | ((with_reducible refine gate_callee (f := 67) rfl ?_); refine goesL_ (some 16) rfl rfl Tryz.func67 (by kernel_rfl) rfl #[.int .u8 a0_0] rfl (by (try simp only [List.map_toArray, List.map_cons, List.map_nil]); first | done | rfl | (simp only [List.length_drop, List.length_take]; rfl)) ?_; (with_reducible refine (warderref04_tag.calls a0_0 t711 _ A5.out).mono ?_); rintro e w' ⟨rfl, ⟨nd, rfl⟩⟩; refine ⟨_, rfl, ?_⟩))
   go_ret2
   exact ⟨_, by first | rfl | (simp [errW_none, errW_some] <;> rfl) | (simp [*, errW_none, errW_some] <;> rfl), by first | exact Kd.R_nil _ _ _ _ _ | exact Kd.N_nil _ _ _ _ _ | exact Kd.V_nil _ _ _ _ _ | exact Kd.Q_nil _ _ _ _ _ | exact Kd.S_nil _ _ _ _ _, by repeat (first | (with_reducible first | exact HB.out | apply below_alloc | apply pw_below_drewN | apply below_drew1 | refine below_set ?_ GE710.out) | exact HB.out)⟩
noncomputable def warderref04_Print.f (k : Nat) (a0_0 : Int) (l0_1 : List Int) (l0_2 : List (S44)) : Option (List Int × Int) := (warderref04_printed.f k a0_0 l0_1 l0_2 0).bind fun bt738 => (some (bt738.1, bt738.2))
set_option maxHeartbeats 8000000 in
set_option maxRecDepth 100000 in
theorem warderref04_Print.calls (k : Nat) (a0_0 : Int) (A0_1 : Option Addr) (c0_1 : Nat) (l0_1 : List Int) (A0_2 : Option Addr) (c0_2 : Nat) (l0_2 : List (S44)) (r1 : List Int) (r2 : Int) (w : World) (hr0_1 : Kd.C (Kd.int .u8) w A0_1 l0_1.length l0_1) (hc0_1 : l0_1.length ≤ c0_1) (hr0_2 : Kd.C k44 w A0_2 l0_2.length l0_2) (hc0_2 : l0_2.length ≤ c0_2) (h : warderref04_Print.f k a0_0 l0_1 l0_2 = some (r1, r2)) :
  Calls Tryz.prog 14 #[.agg #[.int .u8 a0_0, .slice A0_1 l0_1.length c0_1, .slice A0_2 l0_2.length c0_2]] w fun e w' => ∃ v0_ : Value, e = .returned (.tuple #[v0_, .int .i64 r2]) ∧ Kd.R (Kd.int .u8) 5 w' w.heap.size (fun _ => True) v0_ r1 ∧ Below w.heap.size w w' := by
 have hu44 := Tryz.underlying44
 have HR0_1 := Aside0.mk hr0_1
 have HC0_1 := Aside0.mk hc0_1
 clear hr0_1 hc0_1
 have HR0_2 := Aside0.mk hr0_2
 have HC0_2 := Aside0.mk hc0_2
 clear hr0_2 hc0_2
 have HB := Aside0.mk (Below.refl w.heap.size w)
 have H : ((warderref04_printed.f k a0_0 l0_1 l0_2 0).bind fun bt738 => (some (bt738.1, bt738.2))) = some (r1, r2) := h
 clear h
 replace H := Option.bind_eq_some_iff.mp H
 obtain ⟨⟨t738, t741⟩, A20, H⟩ := H
 replace H : (some (t738, t741)) = some (r1, r2) := H
 have A2 := Aside0.mk A20
 clear A20
 simp only [Option.some.injEq, Prod.mk.injEq] at H
 obtain ⟨rfl, rfl⟩ := H
 go_enter Tryz.func14, Tryz.ntmps14
 go_wp2_with (first | ((with_reducible refine gate_dst (N := 1) rfl ?_); refine box_event ?hg (N := 1) ?hd (cs := #[.int .u8 a0_0, .slice A0_1 l0_1.length c0_1, .slice A0_2 l0_2.length c0_2]) (t := 44) ?hr ?_; (case hd => rfl); (case hg => rfl); (case hr => first | (go_simp; done) | (go_simp; rfl)); intro gb737 hg w3 hbox hb; have n0_ := Aside0.mk (below_step (by repeat (first | (with_reducible first | exact HB.out | apply below_alloc | apply pw_below_drewN | apply below_drew1) | exact HB.out)) hb); have n1_ := Aside0.mk (hbox); have n2_ := Aside0.mk ((by rw [hg]; exact (below_size (by repeat (first | (with_reducible first | exact HB.out | apply below_alloc | apply pw_below_drewN | apply below_drew1) | exact HB.out))) : w.heap.size ≤ gb737)); have n3_ := Aside0.mk ((by rw [hg]; exact (below_size (by repeat (first | (with_reducible first | exact HB.out | apply below_alloc | apply pw_below_drewN | apply below_drew1) | exact HB.out))) : w.heap.size ≤ gb737)); clear HB; have HB := n0_; have BK737 := n1_; have GW737 := n2_; have GE737 := n3_; clear n0_ n1_ n2_ n3_; clear hb hbox hg; have hcz4_0 : w3.cell? ⟨gb737, 0, none⟩ = some (.int .u8 a0_0) := (blk_cell BK737.out 0).trans rfl; have hcz4_1 : w3.cell? ⟨gb737, 1, none⟩ = some (.slice A0_1 l0_1.length c0_1) := (blk_cell BK737.out 1).trans rfl; have hcz4_2 : w3.cell? ⟨gb737, 2, none⟩ = some (.slice A0_2 l0_2.length c0_2) := (blk_cell BK737.out 2).trans rfl; have hfz4_0 := blk_frozen BK737.out 0; have hfz4_1 := blk_frozen BK737.out 1; have hfz4_2 := blk_frozen BK737.out 2) | ((with_reducible refine gate_callee (f := 36) rfl ?_); refine goesL_ (some 5) rfl rfl Tryz.func36 (by kernel_rfl) rfl #[.agg #[.int .u8 a0_0, .slice A0_1 l0_1.length c0_1, .slice A0_2 l0_2.length c0_2], .int .i64 0] rfl (by (try simp only [List.map_toArray, List.map_cons, List.map_nil]); first | done | rfl | (simp only [List.length_drop, List.length_take]; rfl)) ?_; (with_reducible refine (warderref04_printed.calls k a0_0 _ _ l0_1 _ _ l0_2 0 t738 t741 _ ?side1 ?side2 ?side3 ?side4 A2.out).mono ?_); (case side1 => repeat (first | exact (Kd.C_below HR0_1.out HB.out) | (with_reducible refine Kd.C_alloc ?_ _) | (with_reducible refine Kd.C_drewN ?_ _) | (with_reducible refine Kd.C_drew ?_))); (case side2 => exact HC0_1.out); (case side3 => repeat (first | exact (Kd.C_below HR0_2.out HB.out) | (with_reducible refine Kd.C_alloc ?_ _) | (with_reducible refine Kd.C_drewN ?_ _) | (with_reducible refine Kd.C_drew ?_))); (case side4 => exact HC0_2.out); rintro e w5 ⟨v739, rfl, ho0, hb⟩; refine ⟨_, rfl, ?_⟩; have n0_ := Aside0.mk (Kd.R_lower ho0 (below_size (by repeat (first | (with_reducible first | exact HB.out | apply below_alloc | apply pw_below_drewN | apply below_drew1 | refine below_set ?_ GE737.out) | exact HB.out)))); have n1_ := Aside0.mk (blk_below (g := gb737) (o := .cells #[.int .u8 a0_0, .slice A0_1 l0_1.length c0_1, .slice A0_2 l0_2.length c0_2] 44 (0, 0)) (by (with_reducible repeat (first | refine blk_drewN ?_ _ | refine blk_drew ?_ | refine blk_alloc ?_ _)); exact BK737.out) hb); have n2_ := Aside0.mk (below_step (by repeat (first | (with_reducible first | exact HB.out | apply below_alloc | apply pw_below_drewN | apply below_drew1 | refine below_set ?_ GE737.out) | exact HB.out)) hb); clear BK737; clear HB; have HO740 := n0_; have BK737 := n1_; have HB := n2_; clear n0_ n1_ n2_; (try clear hb); (try clear hb2); (try clear hk); (try clear hi); (try clear ho0)))
 go_ret2
 exact ⟨_, by first | rfl | (simp [errW_none, errW_some] <;> rfl) | (simp [*, errW_none, errW_some] <;> rfl), by (with_reducible repeat (first | apply Kd.R_alloc | apply Kd.R_drewN | apply Kd.R_drew)); exact HO740.out, by repeat (first | (with_reducible first | exact HB.out | apply below_alloc | apply pw_below_drewN | apply below_drew1 | refine below_set ?_ GE737.out) | exact HB.out)⟩
end Go.Proofs.YtncanijjnhkgbaaGreatDoor.PMsgsPut
namespace Go.Proofs.YtncanijjnhkgbaaGreatDoor.PMsgsPut
open Go.RowKit Go.Proofs.YtncanijjnhkgbaaGreatDoorW.PrintWords Go.Proofs.YtncanijjnhkgbaaGreatDoorW.PrintLast Go.Proofs.YtncanijjnhkgbaaGreatDoorW.PrintMore
theorem ofInt256 (Y : Int) : (BitVec.ofInt 64 (Y * 256)).toNat = (Y % 72057594037927936).toNat * 256 := by
 rw [BitVec.toNat_ofInt]
 omega
theorem or_byte (Y B : Int) (h1 : -9223372036854775808 ≤ Y * 256) (h2 : Y * 256 ≤ 9223372036854775807) (hB : 0 ≤ B) (hB2 : B < 256) : Go.bits .or .i64 (Y * 256) B = Y * 256 + B := by
 show IntKind.i64.wrap ((BitVec.ofInt 64 (Y * 256) ||| BitVec.ofInt 64 B).toNat : Int) = _
 have hb : (BitVec.ofInt 64 B).toNat = B.toNat := by rw [BitVec.toNat_ofInt]; omega
 have ho : (Y % 72057594037927936).toNat * 256 ||| B.toNat = (Y % 72057594037927936).toNat * 256 + B.toNat := by
  have := Nat.two_pow_add_eq_or_of_lt (i := 8) (b := B.toNat) (by omega) (Y % 72057594037927936).toNat
  rw [Nat.mul_comm]
  exact this.symm
 rw [BitVec.toNat_or, ofInt256, hb, ho]
 simp only [IntKind.wrap, IntKind.bits, IntKind.signed]
 simp
 omega
theorem rInt_loop (n : Int) (h1 : -9223372036854775808 ≤ n) (h2 : n ≤ 9223372036854775807) (m : Nat) (hm : m ≤ 7) (l : List Int) (hI : IsInt n m l) :
  ∀ (g i : Nat), i + g = m → Ev (fun k => warderref02_Int.l0 k l (n / 256 ^ g) ((i + 1 : Nat) : Int)) (n, 0)
 | 0, i, hi => by
  obtain rfl : i = m := by omega
  have hl := hI.len
  refine Ev.step ?_
  simp only [warderref02_Int.l0]
  rw [Int.pow_zero, Int.ediv_one]
  refine Ev.neg (by omega) ?_
  cases i with
  | zero => exact Ev.neg (by omega) (Ev.pure rfl)
  | succ i =>
   have hr0 := hI.at_ 0 (by omega)
   have hr1 := hI.at_ 1 (by omega)
   have hmo := hI.most i (by omega)
   have hlo := hI.lo
   have hhi := hI.hi
   rw [show ((0 : Nat) : Int) = 0 from rfl, Nat.sub_zero] at hr0
   rw [show ((1 : Nat) : Int) = 1 from rfl, show i + 1 - 1 = i by omega] at hr1
   rw [dg_succ] at hr0 hlo hhi
   refine Ev.pos (by omega) (Ev.pos (by omega) ?_)
   rw [hr0, hr1]
   generalize n / 256 ^ i = y at hmo hlo hhi
   by_cases h0 : y / 256 % 256 = 0
   ·exact Ev.pos h0 (Ev.pos (by omega) (Ev.neg (by omega) (Ev.neg (by omega) (Ev.pure rfl))))
   ·refine Ev.neg h0 ?_
    by_cases h5 : y / 256 % 256 = 255
    ·exact Ev.pos h5 (Ev.pos (by omega) (Ev.neg (by omega) (Ev.pure rfl)))
    ·exact Ev.neg h5 (Ev.pure rfl)
 | g + 1, i, hi => by
  have ih := rInt_loop n h1 h2 m hm l hI g (i + 1) (by omega)
  have hl := hI.len
  have hr := hI.at_ (i + 1) (by omega)
  rw [show m - (i + 1) = g by omega] at hr
  have hd := dg_step n g
  have hb := dg_bound n h1 h2 g
  refine Ev.step ?_
  simp only [warderref02_Int.l0]
  refine Ev.pos (by omega) (Ev.pos (by omega) ?_)
  rw [hr, w64 (x := n / 256 ^ (g + 1) * 256) (by omega) (by omega), w64 (x := n / 256 ^ g % 256) (by omega) (by omega), or_byte _ _ (by omega) (by omega) (by omega) (by omega), ← hd, w64 (x := ((i + 1 : Nat) : Int) + 1) (by omega) (by omega)]
  exact ih
theorem rIntBack_some (n : Int) (h1 : -9223372036854775808 ≤ n) (h2 : n ≤ 9223372036854775807) : Ev (fun k => warderref02_Int.f k (intE n)) (n, 0) := by
 obtain ⟨m, hm, hI⟩ := intE_spec n h1 h2
 have hl := hI.len
 have hr0 := hI.at_ 0 (by omega)
 have hlo := hI.lo
 have hhi := hI.hi
 rw [show ((0 : Nat) : Int) = 0 from rfl, Nat.sub_zero] at hr0
 have hi8 : IntKind.i8.wrap (n / 256 ^ m % 256) = n / 256 ^ m := by simp [IntKind.wrap, IntKind.bits, IntKind.signed]; omega
 unfold warderref02_Int.f
 refine Ev.neg (by omega) (Ev.step ?_)
 simp only [warderref02_Int.j0]
 refine Ev.neg (by rw [decide_eq_true_eq]; omega) (Ev.pos (by omega) ?_)
 rw [hr0, hi8, w64 (x := n / 256 ^ m) (by omega) (by omega)]
 exact rInt_loop n h1 h2 m hm _ hI m 0 (by omega)
theorem rBody_some {t : Int} {b : List Int} (hb : b.length ≤ 65535) (ho : leafOk t b) (hg : t = 27 → b.all inText = true) : Ev (fun k => warderref04_body.f k t b) 0 := by
 unfold warderref04_body.f
 rcases ho with ⟨rfl, x, rfl⟩ | ⟨rfl, n, h1, h2, rfl⟩ | ⟨rfl, _⟩ | ⟨ht, s, h1, h2, rfl, rfl⟩ | ⟨rfl, h, hB⟩
 ·exact Ev.pos rfl (Ev.bindP (rBool_some x) (Ev.pos rfl (Ev.pure rfl)))
 ·exact Ev.neg (by decide) (Ev.pos rfl (Ev.bind (rIntBack_some n h1 h2) (Ev.pos rfl (Ev.pure rfl))))
 ·refine Ev.neg (by decide) (Ev.neg (by decide) (Ev.neg (by decide) (Ev.neg (by decide) (Ev.step ?_))))
  simp only [warderref04_body.j0]
  refine Ev.neg (by decide) (Ev.neg (by decide) (Ev.neg (by decide) (Ev.neg (by decide) (Ev.neg (by decide) (Ev.step ?_)))))
  simp only [warderref04_body.j1]
  exact Ev.neg (by decide) (Ev.neg (by decide) (Ev.pos (by decide) (Ev.pure rfl)))
 ·have hT := rTime_some s h1 h2
  rcases ht with ht | ht
  ·refine Ev.neg (by omega) (Ev.neg (by omega) (Ev.neg (by omega) (Ev.pos ht (Ev.step ?_))))
   simp only [warderref04_body.j0]
   exact Ev.pos (by rw [ht]; rfl) (Ev.bind hT (Ev.pos rfl (Ev.pure rfl)))
  ·refine Ev.neg (by omega) (Ev.neg (by omega) (Ev.neg (by omega) (Ev.neg (by omega) (Ev.step ?_))))
   simp only [warderref04_body.j0]
   exact Ev.pos (by rw [ht]; rfl) (Ev.bind hT (Ev.pos rfl (Ev.pure rfl)))
 ·refine Ev.neg (by decide) (Ev.neg (by decide) (Ev.neg (by decide) (Ev.neg (by decide) (Ev.step ?_))))
  simp only [warderref04_body.j0]
  refine Ev.neg (by decide) (Ev.neg (by decide) (Ev.neg (by decide) (Ev.neg (by decide) (Ev.neg (by decide) (Ev.step ?_)))))
  simp only [warderref04_body.j1]
  refine Ev.pos (by decide) (Ev.bind (x := true) ⟨b.length + 2, fun k hk => by show warderref03_Right.f k 27 b = some true; rw [ref_right b (by omega) k (by omega), hg rfl]⟩ (Ev.pos rfl (Ev.pos (by decide) (Ev.pure rfl))))
theorem rPrinted_some {h : Nat} {n : S44} (hf : Fine h n) : ∀ d : Nat, d + h < 32 → Ev (fun k => warderref04_printed.f k n.f0 n.f1 n.f2 (d : Int)) (enc n, 0) := by
 induction hf with
 | leaf h t b hb ho =>
  intro d hd
  have h31 : (Go.bits .and .u8 t 31) ≠ 31 ∧ (Go.bits .and .u8 t 32) = 0 := by rcases leaf_tag ho with rfl | rfl | rfl | rfl | rfl | rfl <;> exact ⟨by decide, by decide⟩
  refine Ev.step ?_
  simp only [warderref04_printed.f]
  refine Ev.neg (by omega) (Ev.bindP (rTag_leaf ho) (Ev.pos rfl (Ev.pos h31.2 (Ev.neg (by simp) (Ev.bind (rBody_some hb ho ?_) (Ev.pos rfl (Ev.bindP (rPut_some t b h31.1 hb) (Ev.pure ?_))))))))
  ·rintro rfl
   have h2 : genB b = true ∧ IsB b := by
    rcases ho with ⟨h, _⟩ | ⟨h, _⟩ | ⟨h, _⟩ | ⟨h | h, _⟩ | ⟨_, h⟩
    all_goals first | exact h | (exact absurd h (by decide))
   have h3 := h2.1
   unfold genB at h3
   rw [genS_all, strOf_inj (bytesOf_isB _) h2.2 (by rw [strB])] at h3
   exact h3
  ·simp [enc, encL]
 | comp h t ks ht hl hn hk ih =>
  intro d hd
  obtain ⟨t1, t2, t3, t4, _, _⟩ := comp_tag ht
  have hloop : ∀ (e i : Nat), i + e = ks.length → ∀ x7 : List (List Int), x7.length = i → Ev (fun k => warderref04_printed.l0 k (d : Int) x7 (encL (ks.take i)) (i : Int) t [] ks) (enc ⟨t, [], ks⟩, 0) := by
   intro e
   induction e with
   | zero =>
    intro i hi x7 _
    refine Ev.step ?_
    simp only [warderref04_printed.l0]
    refine Ev.neg (by omega) (Ev.neg t4 ?_)
    rw [List.take_of_length_le (by omega)]
    refine Ev.bindP (rPut_some t _ t1 hl) (Ev.pure ?_)
    simp [enc]
   | succ e ihe =>
    intro i hi x7 h7
    refine Ev.step ?_
    simp only [warderref04_printed.l0]
    refine Ev.pos (by omega) (Ev.pos (by omega) ?_)
    have e1 : wrap64 ((d : Int) + 1) = ((d + 1 : Nat) : Int) := by rw [w64 (by omega) (by omega)]; omega
    have e2 : wrap64 ((i : Int) + 1) = ((i + 1 : Nat) : Int) := by rw [w64 (by omega) (by omega)]; omega
    rw [rd_node ks i (by omega), e1, e2]
    have e3 : encL (ks.take (i + 1)) = encL (ks.take i) ++ enc (ks[i]'(by omega)) := by
     rw [encL_flat, encL_flat, List.take_succ_eq_append_getElem (by omega), List.map_append, List.flatten_append]
     simp
    have e4 : encL ks = encL (ks.take (i + 1)) ++ encL (ks.drop (i + 1)) := by
     rw [encL_flat, encL_flat, encL_flat, ← List.flatten_append, ← List.map_append, List.take_append_drop]
    have e5 := congrArg List.length e4
    rw [e3, List.length_append, List.length_append] at e5
    refine Ev.bind (ih _ (List.getElem_mem (by omega : i < ks.length)) (d + 1) (by omega)) (Ev.pos rfl (Ev.pos (by omega) (Ev.pos ?_ ?_)))
    ·show (encL (ks.take i)).length + (enc (ks[i]'(by omega))).length < 140737488355328
     omega
    ·have := ihe (i + 1) (by omega) (x7 ++ [enc (ks[i]'(by omega))]) (by simp [h7])
     rw [e3] at this
     exact this
  refine Ev.step ?_
  simp only [warderref04_printed.f]
  exact Ev.neg (by omega) (Ev.bindP (rTag_comp ht) (Ev.pos rfl (Ev.neg t2 (Ev.neg (by simp) (hloop ks.length 0 (by omega) [] rfl)))))
end Go.Proofs.YtncanijjnhkgbaaGreatDoor.PMsgsPut
namespace Go.Proofs.YtncanijjnhkgbaaGreatDoor.PMsgsPut
open Go.RowKit Go.Proofs.YtncanijjnhkgbaaGreatDoorW.PrintWords Go.Proofs.YtncanijjnhkgbaaGreatDoorW.PrintLast Go.Proofs.YtncanijjnhkgbaaGreatDoorW.PrintMore
theorem rPrint_calls {h : Nat} (n : S44) (hf : Fine h n) (hh : h < 32) (A1 : Option Addr) (c1 : Nat) (A2 : Option Addr) (c2 : Nat) (w : World) (hr1 : Kd.C (Kd.int .u8) w A1 n.f1.length n.f1) (hc1 : n.f1.length ≤ c1) (hr2 : Kd.C k44 w A2 n.f2.length n.f2) (hc2 : n.f2.length ≤ c2) :
  Calls Tryz.prog 14 #[.agg #[.int .u8 n.f0, .slice A1 n.f1.length c1, .slice A2 n.f2.length c2]] w fun e w' => ∃ v : Value, e = .returned (.tuple #[v, .int .i64 0]) ∧ Kd.R (Kd.int .u8) 5 w' w.heap.size (fun _ => True) v (enc n) ∧ Below w.heap.size w w' := by
 have he : Ev (fun k => warderref04_Print.f k n.f0 n.f1 n.f2) (enc n, 0) := by
  unfold warderref04_Print.f
  exact Ev.bind (rPrinted_some hf 0 (by omega)) (Ev.pure rfl)
 obtain ⟨k, hk⟩ := he.of
 exact warderref04_Print.calls k n.f0 A1 c1 n.f1 A2 c2 n.f2 _ _ w hr1 hc1 hr2 hc2 hk
end Go.Proofs.YtncanijjnhkgbaaGreatDoor.PMsgsPut
